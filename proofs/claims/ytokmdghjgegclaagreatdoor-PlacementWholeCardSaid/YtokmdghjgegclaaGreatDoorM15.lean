/- The functions of the seat as the machine takes them: contexts, bodies, contracts out of the code. Printed by gsctx.py. The functions of the seat as the machine takes them: contexts, bodies, contracts out of the code. Printed by gsctx.py. The program's boxes. The program's packet sets: the valid boxes. The program's packet sets: covering. The functions of the seat as the machine takes them: contexts, bodies, contracts out of the code. Printed by gsctx.py. slices.Sort of uint64: the parts, as the kit's plain functions of the sort. slices.Sort of uint64: the heap, the reversed range. slices.Sort of uint64: the partitions. Printed by mk_sc.py. slices.Sort of uint64: the partial insertion sort. slices.Sort of uint64: the pivot. -/
import Derived.Test.YtokmdghjgegclaaGreatDoorProg
import Derived.Sort.AssemblyPlain
import Derived.Test.YtokmdghjgegclaaGreatDoorM14
set_option linter.unusedVariables false
set_option maxRecDepth 20000
namespace Go.Proofs.YtokmdghjgegclaaGreatDoor
open Go Go.Vm

/-- slices.Equal[[]netsegment/api.Box,netsegment/api.Box] -/
noncomputable def gxEqB : Ctx := { N := 26, np := 0, own := fun _ => false, plan := fun i => match Nat.beq i 6 with | true => some (lin [(0, true), (1, true), (2, true), (3, true), (4, true), (5, true), (6, true), (7, true), (8, true)]) | false => none, hints := fun _ => [], cut := fun _ => false }
noncomputable def bxEqB : Code := match Tryz.f158.body with | some c => c | none => .skip
theorem ofxEqB {args : List AV} {hs : List Vm.Obj} {K : AV → List Vm.Obj → Prop} (hp : Nat.beq gxEqB.np hs.length = true) (ha : Nat.ble args.length 26 = true) (hq : initQ hs args fun σ => codeQ Tryz.prog gxEqB bxEqB σ (retQ Tryz.prog gxEqB Tryz.f158.results.toList K)) : ACall Tryz.prog 158 args hs K :=
  ACall.of_code (Γ := gxEqB) Tryz.func158 (by kernel_rfl) (by kernel_rfl) (by kernel_rfl) (by kernel_rfl) (Nat.eq_of_beq_eq_true hp) ha hq
/-- netsegment/packetset.canonical -/
noncomputable def gxCan : Ctx := { N := 170, np := 0, own := fun _ => false, plan := fun i => match Nat.beq i 13 with | true => some (lin [(0, true), (1, true), (2, true), (3, true), (4, true), (5, true), (6, true), (7, true), (8, true), (9, true), (10, true), (11, true), (12, true), (13, false), (14, false)]) | false => match Nat.beq i 14 with | true => some (lin [(0, true), (1, true), (2, true), (3, true), (4, true), (5, true), (7, true), (8, true), (9, true), (10, true), (12, true), (13, true), (6, false), (11, false), (14, false), (15, true), (16, true), (17, true), (18, true), (19, true)]) | false => match Nat.beq i 19 with | true => some (lin [(0, true), (1, true), (2, true), (3, true), (4, true), (5, true), (6, true), (7, true), (8, true), (9, true), (10, true), (11, true), (12, true), (13, true), (14, true), (15, true), (16, true), (17, true), (18, true), (19, true), (20, true), (21, true), (22, true), (23, false), (24, true)]) | false => none, hints := fun i => match Nat.beq i 8 with | true => [.virt 12 3] | false => [], cut := fun i => match Nat.beq i 7 with | true => true | false => false }
noncomputable def bxCan : Code := match Tryz.f212.body with | some c => c | none => .skip
theorem ofxCan {args : List AV} {hs : List Vm.Obj} {K : AV → List Vm.Obj → Prop} (hp : Nat.beq gxCan.np hs.length = true) (ha : Nat.ble args.length 170 = true) (hq : initQ hs args fun σ => codeQ Tryz.prog gxCan bxCan σ (retQ Tryz.prog gxCan Tryz.f212.results.toList K)) : ACall Tryz.prog 212 args hs K :=
  ACall.of_code (Γ := gxCan) Tryz.func212 (by kernel_rfl) (by kernel_rfl) (by kernel_rfl) (by kernel_rfl) (Nat.eq_of_beq_eq_true hp) ha hq
/-- netsegment/packetset.rests -/
noncomputable def gxRests : Ctx := { N := 28, np := 0, own := fun i => match Nat.beq i 155 with | true => true | false => false, plan := fun _ => none, hints := fun _ => [], cut := fun _ => false }
noncomputable def bxRests : Code := match Tryz.f157.body with | some c => c | none => .skip
theorem ofxRests {args : List AV} {hs : List Vm.Obj} {K : AV → List Vm.Obj → Prop} (hp : Nat.beq gxRests.np hs.length = true) (ha : Nat.ble args.length 28 = true) (hq : initQ hs args fun σ => codeQ Tryz.prog gxRests bxRests σ (retQ Tryz.prog gxRests Tryz.f157.results.toList K)) : ACall Tryz.prog 157 args hs K :=
  ACall.of_code (Γ := gxRests) Tryz.func157 (by kernel_rfl) (by kernel_rfl) (by kernel_rfl) (by kernel_rfl) (Nat.eq_of_beq_eq_true hp) ha hq
/-- netsegment/packetset.combine -/
noncomputable def gxComb : Ctx := { N := 20, np := 0, own := fun _ => false, plan := fun _ => none, hints := fun _ => [], cut := fun _ => false }
noncomputable def bxComb : Code := match Tryz.f186.body with | some c => c | none => .skip
theorem ofxComb {args : List AV} {hs : List Vm.Obj} {K : AV → List Vm.Obj → Prop} (hp : Nat.beq gxComb.np hs.length = true) (ha : Nat.ble args.length 20 = true) (hq : initQ hs args fun σ => codeQ Tryz.prog gxComb bxComb σ (retQ Tryz.prog gxComb Tryz.f186.results.toList K)) : ACall Tryz.prog 186 args hs K :=
  ACall.of_code (Γ := gxComb) Tryz.func186 (by kernel_rfl) (by kernel_rfl) (by kernel_rfl) (by kernel_rfl) (Nat.eq_of_beq_eq_true hp) ha hq
/-- netsegment/packetset.set -/
noncomputable def gxSet : Ctx := { N := 11, np := 0, own := fun _ => false, plan := fun _ => none, hints := fun _ => [], cut := fun _ => false }
noncomputable def bxSet : Code := match Tryz.f185.body with | some c => c | none => .skip
theorem ofxSet {args : List AV} {hs : List Vm.Obj} {K : AV → List Vm.Obj → Prop} (hp : Nat.beq gxSet.np hs.length = true) (ha : Nat.ble args.length 11 = true) (hq : initQ hs args fun σ => codeQ Tryz.prog gxSet bxSet σ (retQ Tryz.prog gxSet Tryz.f185.results.toList K)) : ACall Tryz.prog 185 args hs K :=
  ACall.of_code (Γ := gxSet) Tryz.func185 (by kernel_rfl) (by kernel_rfl) (by kernel_rfl) (by kernel_rfl) (Nat.eq_of_beq_eq_true hp) ha hq
/-- netsegment/packetset.of -/
noncomputable def gxOf : Ctx := { N := 33, np := 0, own := fun _ => false, plan := fun _ => none, hints := fun _ => [], cut := fun _ => false }
noncomputable def bxOf : Code := match Tryz.f142.body with | some c => c | none => .skip
theorem ofxOf {args : List AV} {hs : List Vm.Obj} {K : AV → List Vm.Obj → Prop} (hp : Nat.beq gxOf.np hs.length = true) (ha : Nat.ble args.length 33 = true) (hq : initQ hs args fun σ => codeQ Tryz.prog gxOf bxOf σ (retQ Tryz.prog gxOf Tryz.f142.results.toList K)) : ACall Tryz.prog 142 args hs K :=
  ACall.of_code (Γ := gxOf) Tryz.func142 (by kernel_rfl) (by kernel_rfl) (by kernel_rfl) (by kernel_rfl) (Nat.eq_of_beq_eq_true hp) ha hq
/-- netsegment/packetset.Make -/
noncomputable def gxMake : Ctx := { N := 29, np := 0, own := fun _ => false, plan := fun _ => none, hints := fun i => match Nat.beq i 2 with | true => [.asL 4] | false => [], cut := fun _ => false }
noncomputable def bxMake : Code := match Tryz.f211.body with | some c => c | none => .skip
theorem ofxMake {args : List AV} {hs : List Vm.Obj} {K : AV → List Vm.Obj → Prop} (hp : Nat.beq gxMake.np hs.length = true) (ha : Nat.ble args.length 29 = true) (hq : initQ hs args fun σ => codeQ Tryz.prog gxMake bxMake σ (retQ Tryz.prog gxMake Tryz.f211.results.toList K)) : ACall Tryz.prog 211 args hs K :=
  ACall.of_code (Γ := gxMake) Tryz.func211 (by kernel_rfl) (by kernel_rfl) (by kernel_rfl) (by kernel_rfl) (Nat.eq_of_beq_eq_true hp) ha hq
/-- netsegment/packetset.Valid -/
noncomputable def gxVald : Ctx := { N := 18, np := 0, own := fun _ => false, plan := fun _ => none, hints := fun _ => [], cut := fun _ => false }
noncomputable def bxVald : Code := match Tryz.f59.body with | some c => c | none => .skip
theorem ofxVald {args : List AV} {hs : List Vm.Obj} {K : AV → List Vm.Obj → Prop} (hp : Nat.beq gxVald.np hs.length = true) (ha : Nat.ble args.length 18 = true) (hq : initQ hs args fun σ => codeQ Tryz.prog gxVald bxVald σ (retQ Tryz.prog gxVald Tryz.f59.results.toList K)) : ACall Tryz.prog 59 args hs K :=
  ACall.of_code (Γ := gxVald) Tryz.func59 (by kernel_rfl) (by kernel_rfl) (by kernel_rfl) (by kernel_rfl) (Nat.eq_of_beq_eq_true hp) ha hq
/-- netsegment/packetset.divided -/
noncomputable def gxDiv : Ctx := { N := 86, np := 0, own := fun _ => false, plan := fun i => match Nat.beq i 6 with | true => some (lin [(0, true), (1, true), (2, true), (3, true), (4, true), (5, true), (6, true), (7, true), (8, true), (9, true), (10, true), (11, true), (12, true), (13, true), (14, true), (15, true), (16, true), (17, true)]) | false => match Nat.beq i 8 with | true => some (.one 0 true (.one 1 true (.one 2 true (.one 3 true (.one 4 true (.one 5 true (.one 6 true (.one 7 true (.one 8 true (.alt 9 (.one 10 true (.one 11 false (.one 12 false (.done)))) (.alt 11 (.one 9 false (.one 10 true (.one 12 false (.done)))) (.stop)))))))))))) | false => match Nat.beq i 14 with | true => some (lin [(0, true), (1, true), (2, true), (3, true), (4, false), (5, true)]) | false => none, hints := fun _ => [], cut := fun i => match Nat.beq i 8 with | true => true | false => match Nat.beq i 9 with | true => true | false => false }
noncomputable def bxDiv : Code := match Tryz.f109.body with | some c => c | none => .skip
theorem ofxDiv {args : List AV} {hs : List Vm.Obj} {K : AV → List Vm.Obj → Prop} (hp : Nat.beq gxDiv.np hs.length = true) (ha : Nat.ble args.length 86 = true) (hq : initQ hs args fun σ => codeQ Tryz.prog gxDiv bxDiv σ (retQ Tryz.prog gxDiv Tryz.f109.results.toList K)) : ACall Tryz.prog 109 args hs K :=
  ACall.of_code (Γ := gxDiv) Tryz.func109 (by kernel_rfl) (by kernel_rfl) (by kernel_rfl) (by kernel_rfl) (Nat.eq_of_beq_eq_true hp) ha hq
/-- netsegment/packetset.Intersect -/
noncomputable def gxInt : Ctx := { N := 11, np := 0, own := fun _ => false, plan := fun _ => none, hints := fun _ => [], cut := fun _ => false }
noncomputable def bxInt : Code := match Tryz.f101.body with | some c => c | none => .skip
theorem ofxInt {args : List AV} {hs : List Vm.Obj} {K : AV → List Vm.Obj → Prop} (hp : Nat.beq gxInt.np hs.length = true) (ha : Nat.ble args.length 11 = true) (hq : initQ hs args fun σ => codeQ Tryz.prog gxInt bxInt σ (retQ Tryz.prog gxInt Tryz.f101.results.toList K)) : ACall Tryz.prog 101 args hs K :=
  ACall.of_code (Γ := gxInt) Tryz.func101 (by kernel_rfl) (by kernel_rfl) (by kernel_rfl) (by kernel_rfl) (Nat.eq_of_beq_eq_true hp) ha hq
/-- netsegment/packetset.Subset -/
noncomputable def gxSubs : Ctx := { N := 15, np := 0, own := fun _ => false, plan := fun _ => none, hints := fun _ => [], cut := fun _ => false }
noncomputable def bxSubs : Code := match Tryz.f60.body with | some c => c | none => .skip
theorem ofxSubs {args : List AV} {hs : List Vm.Obj} {K : AV → List Vm.Obj → Prop} (hp : Nat.beq gxSubs.np hs.length = true) (ha : Nat.ble args.length 15 = true) (hq : initQ hs args fun σ => codeQ Tryz.prog gxSubs bxSubs σ (retQ Tryz.prog gxSubs Tryz.f60.results.toList K)) : ACall Tryz.prog 60 args hs K :=
  ACall.of_code (Γ := gxSubs) Tryz.func60 (by kernel_rfl) (by kernel_rfl) (by kernel_rfl) (by kernel_rfl) (Nat.eq_of_beq_eq_true hp) ha hq
/-- netsegment/packetset.least -/
noncomputable def gxLst : Ctx := { N := 77, np := 1, own := fun i => match Nat.beq i 159 with | true => true | false => false, plan := fun i => match Nat.beq i 10 with | true => some (lin [(0, true), (1, true), (2, true), (3, true), (4, true), (5, true), (6, true), (7, true), (8, true), (10, true), (11, true), (12, true), (13, true), (14, true), (15, true), (16, true), (18, true), (19, true), (9, false), (17, false), (20, false)]) | false => none, hints := fun _ => [], cut := fun i => match Nat.beq i 5 with | true => true | false => false }
noncomputable def bxLst : Code := match Tryz.f159.body with | some c => c | none => .skip
theorem ofxLst {args : List AV} {hs : List Vm.Obj} {K : AV → List Vm.Obj → Prop} (hp : Nat.beq gxLst.np hs.length = true) (ha : Nat.ble args.length 77 = true) (hq : initQ hs args fun σ => codeQ Tryz.prog gxLst bxLst σ (retQ Tryz.prog gxLst Tryz.f159.results.toList K)) : ACall Tryz.prog 159 args hs K :=
  ACall.of_code (Γ := gxLst) Tryz.func159 (by kernel_rfl) (by kernel_rfl) (by kernel_rfl) (by kernel_rfl) (Nat.eq_of_beq_eq_true hp) ha hq
/-- netsegment/packetset.first -/
noncomputable def gxFst : Ctx := { N := 31, np := 0, own := fun i => match Nat.beq i 159 with | true => true | false => false, plan := fun _ => none, hints := fun _ => [], cut := fun _ => false }
noncomputable def bxFst : Code := match Tryz.f110.body with | some c => c | none => .skip
theorem ofxFst {args : List AV} {hs : List Vm.Obj} {K : AV → List Vm.Obj → Prop} (hp : Nat.beq gxFst.np hs.length = true) (ha : Nat.ble args.length 31 = true) (hq : initQ hs args fun σ => codeQ Tryz.prog gxFst bxFst σ (retQ Tryz.prog gxFst Tryz.f110.results.toList K)) : ACall Tryz.prog 110 args hs K :=
  ACall.of_code (Γ := gxFst) Tryz.func110 (by kernel_rfl) (by kernel_rfl) (by kernel_rfl) (by kernel_rfl) (Nat.eq_of_beq_eq_true hp) ha hq
/-- netsegment/box.values -/
noncomputable def gxVals : Ctx := { N := 17, np := 0, own := fun _ => false, plan := fun _ => none, hints := fun _ => [], cut := fun _ => false }
noncomputable def bxVals : Code := match Tryz.f196.body with | some c => c | none => .skip
theorem ofxVals {args : List AV} {hs : List Vm.Obj} {K : AV → List Vm.Obj → Prop} (hp : Nat.beq gxVals.np hs.length = true) (ha : Nat.ble args.length 17 = true) (hq : initQ hs args fun σ => codeQ Tryz.prog gxVals bxVals σ (retQ Tryz.prog gxVals Tryz.f196.results.toList K)) : ACall Tryz.prog 196 args hs K :=
  ACall.of_code (Γ := gxVals) Tryz.func196 (by kernel_rfl) (by kernel_rfl) (by kernel_rfl) (by kernel_rfl) (Nat.eq_of_beq_eq_true hp) ha hq
/-- netsegment/box.header -/
noncomputable def gxHdr : Ctx := { N := 17, np := 0, own := fun _ => false, plan := fun _ => none, hints := fun _ => [], cut := fun _ => false }
noncomputable def bxHdr : Code := match Tryz.f197.body with | some c => c | none => .skip
theorem ofxHdr {args : List AV} {hs : List Vm.Obj} {K : AV → List Vm.Obj → Prop} (hp : Nat.beq gxHdr.np hs.length = true) (ha : Nat.ble args.length 17 = true) (hq : initQ hs args fun σ => codeQ Tryz.prog gxHdr bxHdr σ (retQ Tryz.prog gxHdr Tryz.f197.results.toList K)) : ACall Tryz.prog 197 args hs K :=
  ACall.of_code (Γ := gxHdr) Tryz.func197 (by kernel_rfl) (by kernel_rfl) (by kernel_rfl) (by kernel_rfl) (Nat.eq_of_beq_eq_true hp) ha hq
/-- netsegment/box.With -/
noncomputable def gxWith : Ctx := { N := 29, np := 0, own := fun _ => false, plan := fun _ => none, hints := fun _ => [], cut := fun _ => false }
noncomputable def bxWith : Code := match Tryz.f160.body with | some c => c | none => .skip
theorem ofxWith {args : List AV} {hs : List Vm.Obj} {K : AV → List Vm.Obj → Prop} (hp : Nat.beq gxWith.np hs.length = true) (ha : Nat.ble args.length 29 = true) (hq : initQ hs args fun σ => codeQ Tryz.prog gxWith bxWith σ (retQ Tryz.prog gxWith Tryz.f160.results.toList K)) : ACall Tryz.prog 160 args hs K :=
  ACall.of_code (Γ := gxWith) Tryz.func160 (by kernel_rfl) (by kernel_rfl) (by kernel_rfl) (by kernel_rfl) (Nat.eq_of_beq_eq_true hp) ha hq

end Go.Proofs.YtokmdghjgegclaaGreatDoor

set_option linter.unusedVariables false
set_option maxRecDepth 20000
namespace Go.Proofs.YtokmdghjgegclaaGreatDoor
open Go Go.Vm

/-- netsegment/box.Top -/
noncomputable def gxTop : Ctx := { N := 12, np := 0, own := fun _ => false, plan := fun _ => none, hints := fun _ => [], cut := fun _ => false }
noncomputable def bxTop : Code := match Tryz.f141.body with | some c => c | none => .skip
theorem ofxTop {args : List AV} {hs : List Vm.Obj} {K : AV → List Vm.Obj → Prop} (hp : Nat.beq gxTop.np hs.length = true) (ha : Nat.ble args.length 12 = true) (hq : initQ hs args fun σ => codeQ Tryz.prog gxTop bxTop σ (retQ Tryz.prog gxTop Tryz.f141.results.toList K)) : ACall Tryz.prog 141 args hs K :=
  ACall.of_code (Γ := gxTop) Tryz.func141 (by kernel_rfl) (by kernel_rfl) (by kernel_rfl) (by kernel_rfl) (Nat.eq_of_beq_eq_true hp) ha hq
/-- netsegment/box.Full -/
noncomputable def gxFull : Ctx := { N := 15, np := 0, own := fun _ => false, plan := fun _ => none, hints := fun _ => [], cut := fun _ => false }
noncomputable def bxFull : Code := match Tryz.f64.body with | some c => c | none => .skip
theorem ofxFull {args : List AV} {hs : List Vm.Obj} {K : AV → List Vm.Obj → Prop} (hp : Nat.beq gxFull.np hs.length = true) (ha : Nat.ble args.length 15 = true) (hq : initQ hs args fun σ => codeQ Tryz.prog gxFull bxFull σ (retQ Tryz.prog gxFull Tryz.f64.results.toList K)) : ACall Tryz.prog 64 args hs K :=
  ACall.of_code (Γ := gxFull) Tryz.func64 (by kernel_rfl) (by kernel_rfl) (by kernel_rfl) (by kernel_rfl) (Nat.eq_of_beq_eq_true hp) ha hq
/-- netsegment/box.Valid -/
noncomputable def gxBVal : Ctx := { N := 24, np := 0, own := fun _ => false, plan := fun i => match Nat.beq i 4 with | true => some (lin [(0, true), (1, true), (2, true), (3, true), (4, true), (5, true), (6, true), (7, true), (8, true), (9, true), (10, true), (11, true), (12, true)]) | false => none, hints := fun _ => [], cut := fun _ => false }
noncomputable def bxBVal : Code := match Tryz.f144.body with | some c => c | none => .skip
theorem ofxBVal {args : List AV} {hs : List Vm.Obj} {K : AV → List Vm.Obj → Prop} (hp : Nat.beq gxBVal.np hs.length = true) (ha : Nat.ble args.length 24 = true) (hq : initQ hs args fun σ => codeQ Tryz.prog gxBVal bxBVal σ (retQ Tryz.prog gxBVal Tryz.f144.results.toList K)) : ACall Tryz.prog 144 args hs K :=
  ACall.of_code (Γ := gxBVal) Tryz.func144 (by kernel_rfl) (by kernel_rfl) (by kernel_rfl) (by kernel_rfl) (Nat.eq_of_beq_eq_true hp) ha hq
/-- netsegment/packetset.covering -/
noncomputable def gxCov : Ctx := { N := 36, np := 0, own := fun _ => false, plan := fun _ => none, hints := fun i => match Nat.beq i 2 with | true => [.virt 7 10] | false => [], cut := fun _ => false }
noncomputable def bxCov : Code := match Tryz.f195.body with | some c => c | none => .skip
theorem ofxCov {args : List AV} {hs : List Vm.Obj} {K : AV → List Vm.Obj → Prop} (hp : Nat.beq gxCov.np hs.length = true) (ha : Nat.ble args.length 36 = true) (hq : initQ hs args fun σ => codeQ Tryz.prog gxCov bxCov σ (retQ Tryz.prog gxCov Tryz.f195.results.toList K)) : ACall Tryz.prog 195 args hs K :=
  ACall.of_code (Γ := gxCov) Tryz.func195 (by kernel_rfl) (by kernel_rfl) (by kernel_rfl) (by kernel_rfl) (Nat.eq_of_beq_eq_true hp) ha hq
/-- netsegment/packetset.either -/
noncomputable def gxEither : Ctx := { N := 9, np := 0, own := fun _ => false, plan := fun _ => none, hints := fun _ => [], cut := fun _ => false }
noncomputable def bxEither : Code := match Tryz.f220.body with | some c => c | none => .skip
theorem ofxEither {args : List AV} {hs : List Vm.Obj} {K : AV → List Vm.Obj → Prop} (hp : Nat.beq gxEither.np hs.length = true) (ha : Nat.ble args.length 9 = true) (hq : initQ hs args fun σ => codeQ Tryz.prog gxEither bxEither σ (retQ Tryz.prog gxEither Tryz.f220.results.toList K)) : ACall Tryz.prog 220 args hs K :=
  ACall.of_code (Γ := gxEither) Tryz.func220 (by kernel_rfl) (by kernel_rfl) (by kernel_rfl) (by kernel_rfl) (Nat.eq_of_beq_eq_true hp) ha hq
/-- netsegment/packetset.both -/
noncomputable def gxBoth : Ctx := { N := 9, np := 0, own := fun _ => false, plan := fun _ => none, hints := fun _ => [], cut := fun _ => false }
noncomputable def bxBoth : Code := match Tryz.f143.body with | some c => c | none => .skip
theorem ofxBoth {args : List AV} {hs : List Vm.Obj} {K : AV → List Vm.Obj → Prop} (hp : Nat.beq gxBoth.np hs.length = true) (ha : Nat.ble args.length 9 = true) (hq : initQ hs args fun σ => codeQ Tryz.prog gxBoth bxBoth σ (retQ Tryz.prog gxBoth Tryz.f143.results.toList K)) : ACall Tryz.prog 143 args hs K :=
  ACall.of_code (Γ := gxBoth) Tryz.func143 (by kernel_rfl) (by kernel_rfl) (by kernel_rfl) (by kernel_rfl) (Nat.eq_of_beq_eq_true hp) ha hq
/-- netsegment/packetset.without -/
noncomputable def gxWout : Ctx := { N := 10, np := 0, own := fun _ => false, plan := fun _ => none, hints := fun _ => [], cut := fun _ => false }
noncomputable def bxWout : Code := match Tryz.f111.body with | some c => c | none => .skip
theorem ofxWout {args : List AV} {hs : List Vm.Obj} {K : AV → List Vm.Obj → Prop} (hp : Nat.beq gxWout.np hs.length = true) (ha : Nat.ble args.length 10 = true) (hq : initQ hs args fun σ => codeQ Tryz.prog gxWout bxWout σ (retQ Tryz.prog gxWout Tryz.f111.results.toList K)) : ACall Tryz.prog 111 args hs K :=
  ACall.of_code (Γ := gxWout) Tryz.func111 (by kernel_rfl) (by kernel_rfl) (by kernel_rfl) (by kernel_rfl) (Nat.eq_of_beq_eq_true hp) ha hq
/-- netsegment/packetset.cuts -/
noncomputable def gxCuts : Ctx := { N := 47, np := 0, own := fun i => match Nat.beq i 214 with | true => true | false => match Nat.beq i 215 with | true => true | false => false, plan := fun i => match Nat.beq i 8 with | true => some (lin [(0, true), (1, true), (2, true), (3, true), (4, true), (5, true), (6, true), (7, true), (8, true), (9, true), (10, true), (11, true), (12, false), (13, false), (14, true)]) | false => none, hints := fun _ => [], cut := fun _ => false }
noncomputable def bxCuts : Code := match Tryz.f194.body with | some c => c | none => .skip
theorem ofxCuts {args : List AV} {hs : List Vm.Obj} {K : AV → List Vm.Obj → Prop} (hp : Nat.beq gxCuts.np hs.length = true) (ha : Nat.ble args.length 47 = true) (hq : initQ hs args fun σ => codeQ Tryz.prog gxCuts bxCuts σ (retQ Tryz.prog gxCuts Tryz.f194.results.toList K)) : ACall Tryz.prog 194 args hs K :=
  ACall.of_code (Γ := gxCuts) Tryz.func194 (by kernel_rfl) (by kernel_rfl) (by kernel_rfl) (by kernel_rfl) (Nat.eq_of_beq_eq_true hp) ha hq
/-- netsegment/packetset.valid$1 -/
noncomputable def gxValC : Ctx := { N := 6, np := 0, own := fun _ => false, plan := fun _ => none, hints := fun _ => [], cut := fun _ => false }
noncomputable def bxValC : Code := match Tryz.f156.body with | some c => c | none => .skip
theorem ofxValC {args : List AV} {hs : List Vm.Obj} {K : AV → List Vm.Obj → Prop} (hp : Nat.beq gxValC.np hs.length = true) (ha : Nat.ble args.length 6 = true) (hq : initQ hs args fun σ => codeQ Tryz.prog gxValC bxValC σ (retQ Tryz.prog gxValC Tryz.f156.results.toList K)) : ACall Tryz.prog 156 args hs K :=
  ACall.of_code (Γ := gxValC) Tryz.func156 (by kernel_rfl) (by kernel_rfl) (by kernel_rfl) (by kernel_rfl) (Nat.eq_of_beq_eq_true hp) ha hq
/-- slices.IndexFunc[[]netsegment/api.Box,netsegment/api.Box] -/
noncomputable def gxIdx : Ctx := { N := 19, np := 0, own := fun _ => false, plan := fun _ => none, hints := fun _ => [], cut := fun _ => false }
noncomputable def bxIdx : Code := match Tryz.f193.body with | some c => c | none => .skip
theorem ofxIdx {args : List AV} {hs : List Vm.Obj} {K : AV → List Vm.Obj → Prop} (hp : Nat.beq gxIdx.np hs.length = true) (ha : Nat.ble args.length 19 = true) (hq : initQ hs args fun σ => codeQ Tryz.prog gxIdx bxIdx σ (retQ Tryz.prog gxIdx Tryz.f193.results.toList K)) : ACall Tryz.prog 193 args hs K :=
  ACall.of_code (Γ := gxIdx) Tryz.func193 (by kernel_rfl) (by kernel_rfl) (by kernel_rfl) (by kernel_rfl) (Nat.eq_of_beq_eq_true hp) ha hq
/-- slices.Clone[[]netsegment/api.Box,netsegment/api.Box] -/
noncomputable def gxClone : Ctx := { N := 8, np := 0, own := fun _ => false, plan := fun _ => none, hints := fun _ => [], cut := fun _ => false, res := true }
noncomputable def bxClone : Code := match Tryz.f155.body with | some c => c | none => .skip
theorem ofxClone {args : List AV} {hs : List Vm.Obj} {K : AV → List Vm.Obj → Prop} (hp : Nat.beq gxClone.np hs.length = true) (ha : Nat.ble args.length 8 = true) (hq : initQ hs args fun σ => codeQ Tryz.prog gxClone bxClone σ (retQ Tryz.prog gxClone Tryz.f155.results.toList K)) : ACall Tryz.prog 155 args hs K :=
  ACall.of_code (Γ := gxClone) Tryz.func155 (by kernel_rfl) (by kernel_rfl) (by kernel_rfl) (by kernel_rfl) (Nat.eq_of_beq_eq_true hp) ha hq
/-- slices.DeleteFunc[[]netsegment/api.Box,netsegment/api.Box] -/
noncomputable def gxDel : Ctx := { N := 42, np := 1, own := fun _ => false, plan := fun _ => none, hints := fun _ => [], cut := fun _ => false, res := true, lend := fun i => match Nat.beq i 193 with | true => true | false => false }
noncomputable def bxDel : Code := match Tryz.f154.body with | some c => c | none => .skip
theorem ofxDel {args : List AV} {hs : List Vm.Obj} {K : AV → List Vm.Obj → Prop} (hp : Nat.beq gxDel.np hs.length = true) (ha : Nat.ble args.length 42 = true) (hq : initQ hs args fun σ => codeQ Tryz.prog gxDel bxDel σ (retQ Tryz.prog gxDel Tryz.f154.results.toList K)) : ACall Tryz.prog 154 args hs K :=
  ACall.of_code (Γ := gxDel) Tryz.func154 (by kernel_rfl) (by kernel_rfl) (by kernel_rfl) (by kernel_rfl) (Nat.eq_of_beq_eq_true hp) ha hq
/-- netsegment/packetset.valid -/
noncomputable def gxVal : Ctx := { N := 6, np := 0, own := fun i => match Nat.beq i 155 with | true => true | false => match Nat.beq i 154 with | true => true | false => false, plan := fun _ => none, hints := fun _ => [], cut := fun _ => false }
noncomputable def bxVal : Code := match Tryz.f108.body with | some c => c | none => .skip
theorem ofxVal {args : List AV} {hs : List Vm.Obj} {K : AV → List Vm.Obj → Prop} (hp : Nat.beq gxVal.np hs.length = true) (ha : Nat.ble args.length 6 = true) (hq : initQ hs args fun σ => codeQ Tryz.prog gxVal bxVal σ (retQ Tryz.prog gxVal Tryz.f108.results.toList K)) : ACall Tryz.prog 108 args hs K :=
  ACall.of_code (Γ := gxVal) Tryz.func108 (by kernel_rfl) (by kernel_rfl) (by kernel_rfl) (by kernel_rfl) (Nat.eq_of_beq_eq_true hp) ha hq
/-- slices.DeleteFunc[[]netsegment/api.Box,netsegment/api.Box] -/
noncomputable def gxDel0 : Ctx := { N := 42, np := 0, own := fun _ => false, plan := fun _ => none, hints := fun _ => [], cut := fun _ => false }
noncomputable def bxDel0 : Code := match Tryz.f154.body with | some c => c | none => .skip
theorem ofxDel0 {args : List AV} {hs : List Vm.Obj} {K : AV → List Vm.Obj → Prop} (hp : Nat.beq gxDel0.np hs.length = true) (ha : Nat.ble args.length 42 = true) (hq : initQ hs args fun σ => codeQ Tryz.prog gxDel0 bxDel0 σ (retQ Tryz.prog gxDel0 Tryz.f154.results.toList K)) : ACall Tryz.prog 154 args hs K :=
  ACall.of_code (Γ := gxDel0) Tryz.func154 (by kernel_rfl) (by kernel_rfl) (by kernel_rfl) (by kernel_rfl) (Nat.eq_of_beq_eq_true hp) ha hq

end Go.Proofs.YtokmdghjgegclaaGreatDoor

set_option linter.unusedVariables false
set_option linter.unusedSimpArgs false
set_option maxRecDepth 20000
namespace Go.Proofs.YtokmdghjgegclaaGreatDoor
open Go Go.Vm

/-- box.Top -/
theorem cxTop (f : Int) {K : AV → List Vm.Obj → Prop} (hK : K (.v (.int .u32 (topI f))) []) : ACall Tryz.prog 141 [.v (.int .i64 f)] [] K := by
  refine ofxTop rfl rfl ?_
  by_cases h1 : 0 ≤ f ∧ f < 5
  · have h2 : f = 0 ∨ f = 1 ∨ f = 2 ∨ f = 3 ∨ f = 4 := by omega
    rcases h2 with rfl | rfl | rfl | rfl | rfl
    all_goals
      (all_goals (repeat' ((conv => whnf); first | (refine in_c (by decide) ?_)|((with_reducible refine sl_full ?_ ?_);exact gA)|((with_reducible refine Ob.intro ?_ ?_);exact gC)|(with_reducible first|refine br_lt ?_|refine br_lf ?_)|((with_reducible refine br_pos ?_ ?_);exact gB)|((with_reducible refine br_neg ?_ ?_);exact gB)|(with_reducible(refine br_t ?_ ?_;assumption))|(with_reducible(refine br_f ?_ ?_;assumption))|(with_reducible first|refine br_dec (fun h=>?_) fun h=>?_|refine br_not ?_|refine br_b (fun h=>?_) fun h=>?_)|((with_reducible first|refine wr_i64 rfl ?_ ?_ ?_|refine wr_u64 rfl ?_ ?_ ?_|refine wr_u32 rfl ?_ ?_ ?_);exact gB;exact gB)|(with_reducible first|refine And.intro ?_ ?_|refine True.intro|refine Stp.go ?_)))); (all_goals (conv => whnf))
      exact hK
  · (all_goals (repeat' ((conv => whnf); first | ((with_reducible refine sl_full ?_ ?_);exact gA)|((with_reducible refine Ob.intro ?_ ?_);exact gC)|(with_reducible first|refine br_lt ?_|refine br_lf ?_)|((with_reducible refine br_pos ?_ ?_);exact gB)|((with_reducible refine br_neg ?_ ?_);exact gB)|(with_reducible(refine br_t ?_ ?_;assumption))|(with_reducible(refine br_f ?_ ?_;assumption))|(with_reducible first|refine br_dec (fun h=>?_) fun h=>?_|refine br_not ?_|refine br_b (fun h=>?_) fun h=>?_)|((with_reducible first|refine wr_i64 rfl ?_ ?_ ?_|refine wr_u64 rfl ?_ ?_ ?_|refine wr_u32 rfl ?_ ?_ ?_);exact gB;exact gB)|(with_reducible first|refine And.intro ?_ ?_|refine True.intro|refine Stp.go ?_)))); (all_goals (conv => whnf))
    · rw [show topI f = 0 from by unfold topI; rw [if_neg (by omega), if_neg (by omega), if_neg (by omega)]] at hK
      exact hK
    · rw [show topI f = 0 from by unfold topI; rw [if_neg (by omega), if_neg (by omega), if_neg (by omega)]] at hK
      exact hK
/-- box.Full -/
theorem cxFull {K : AV → List Vm.Obj → Prop} (hK : K (encX fullB) []) : ACall Tryz.prog 64 [] [] K := by
  refine ofxFull rfl rfl ?_
  (all_goals (repeat' ((conv => whnf); first | (with_reducible refine Lp.times 6 ?_)|(refine in_c (by decide) ?_)|((with_reducible refine sl_full ?_ ?_);exact gA)|((with_reducible refine Ob.intro ?_ ?_);exact gC)|(with_reducible first|refine br_lt ?_|refine br_lf ?_)|((with_reducible refine br_pos ?_ ?_);exact gB)|((with_reducible refine br_neg ?_ ?_);exact gB)|(with_reducible(refine br_t ?_ ?_;assumption))|(with_reducible(refine br_f ?_ ?_;assumption))|(with_reducible first|refine br_dec (fun h=>?_) fun h=>?_|refine br_not ?_|refine br_b (fun h=>?_) fun h=>?_)|((with_reducible first|refine wr_i64 rfl ?_ ?_ ?_|refine wr_u64 rfl ?_ ?_ ?_|refine wr_u32 rfl ?_ ?_ ?_);exact gB;exact gB)|(with_reducible first|refine And.intro ?_ ?_|refine True.intro|refine Stp.go ?_)))); (all_goals (conv => whnf))
  exact hK
/-- box.Valid -/
theorem cxBVal (b : Bx) {K : AV → List Vm.Obj → Prop} (hK : K (.sb (decide b.ok)) []) : ACall Tryz.prog 144 [encX b] [] K := by
  refine ACall.bool (ofxBVal rfl rfl ?_)
  (all_goals (repeat' ((conv => whnf); first | (with_reducible refine Lp.times 6 ?_)|(refine in_c (by decide) ?_)|((with_reducible refine sl_full ?_ ?_);exact gA)|((with_reducible refine Ob.intro ?_ ?_);exact gC)|(with_reducible first|refine br_lt ?_|refine br_lf ?_)|((with_reducible refine br_pos ?_ ?_);exact gB)|((with_reducible refine br_neg ?_ ?_);exact gB)|(with_reducible(refine br_t ?_ ?_;assumption))|(with_reducible(refine br_f ?_ ?_;assumption))|(with_reducible first|refine br_dec (fun h=>?_) fun h=>?_|refine br_not ?_|refine br_b (fun h=>?_) fun h=>?_)|((with_reducible first|refine wr_i64 rfl ?_ ?_ ?_|refine wr_u64 rfl ?_ ?_ ?_|refine wr_u32 rfl ?_ ?_ ?_);exact gB;exact gB)|(with_reducible first|refine And.intro ?_ ?_|refine True.intro|refine Stp.go ?_)))); (all_goals (conv => whnf))
  all_goals
    have hb : b.ok ↔ ((b.r0.lo ≤ b.r0.hi ∧ b.r0.hi ≤ 4294967295) ∧ (b.r1.lo ≤ b.r1.hi ∧ b.r1.hi ≤ 4294967295) ∧ (b.r2.lo ≤ b.r2.hi ∧ b.r2.hi ≤ 255) ∧ (b.r3.lo ≤ b.r3.hi ∧ b.r3.hi ≤ 65535) ∧ (b.r4.lo ≤ b.r4.hi ∧ b.r4.hi ≤ 65535)) := Iff.rfl
    first
      | exact fin_f hK (decide_eq_false (by rw [hb]; omega))
      | exact fin_t hK (decide_eq_true (by rw [hb]; omega))
theorem cxEither (x y : Bool) {K : AV → List Vm.Obj → Prop} (hK : K (.sb (x || y)) []) : ACall Tryz.prog 220 [.sb x, .sb y] [] K := by
  refine ACall.bool (ofxEither rfl rfl ?_)
  (all_goals (repeat' ((conv => whnf); first | ((with_reducible refine sl_full ?_ ?_);exact gA)|((with_reducible refine Ob.intro ?_ ?_);exact gC)|(with_reducible first|refine br_lt ?_|refine br_lf ?_)|((with_reducible refine br_pos ?_ ?_);exact gB)|((with_reducible refine br_neg ?_ ?_);exact gB)|(with_reducible(refine br_t ?_ ?_;assumption))|(with_reducible(refine br_f ?_ ?_;assumption))|(with_reducible first|refine br_dec (fun h=>?_) fun h=>?_|refine br_not ?_|refine br_b (fun h=>?_) fun h=>?_)|((with_reducible first|refine wr_i64 rfl ?_ ?_ ?_|refine wr_u64 rfl ?_ ?_ ?_|refine wr_u32 rfl ?_ ?_ ?_);exact gB;exact gB)|(with_reducible first|refine And.intro ?_ ?_|refine True.intro|refine Stp.go ?_)))); (all_goals (conv => whnf))
  all_goals
    first
      | exact fin_s hK (by cases x <;> cases y <;> simp_all)
      | exact fin_t hK (by cases x <;> cases y <;> simp_all)
      | exact fin_f hK (by cases x <;> cases y <;> simp_all)
theorem cxBoth (x y : Bool) {K : AV → List Vm.Obj → Prop} (hK : K (.sb (x && y)) []) : ACall Tryz.prog 143 [.sb x, .sb y] [] K := by
  refine ACall.bool (ofxBoth rfl rfl ?_)
  (all_goals (repeat' ((conv => whnf); first | ((with_reducible refine sl_full ?_ ?_);exact gA)|((with_reducible refine Ob.intro ?_ ?_);exact gC)|(with_reducible first|refine br_lt ?_|refine br_lf ?_)|((with_reducible refine br_pos ?_ ?_);exact gB)|((with_reducible refine br_neg ?_ ?_);exact gB)|(with_reducible(refine br_t ?_ ?_;assumption))|(with_reducible(refine br_f ?_ ?_;assumption))|(with_reducible first|refine br_dec (fun h=>?_) fun h=>?_|refine br_not ?_|refine br_b (fun h=>?_) fun h=>?_)|((with_reducible first|refine wr_i64 rfl ?_ ?_ ?_|refine wr_u64 rfl ?_ ?_ ?_|refine wr_u32 rfl ?_ ?_ ?_);exact gB;exact gB)|(with_reducible first|refine And.intro ?_ ?_|refine True.intro|refine Stp.go ?_)))); (all_goals (conv => whnf))
  all_goals
    first
      | exact fin_s hK (by cases x <;> cases y <;> simp_all)
      | exact fin_t hK (by cases x <;> cases y <;> simp_all)
      | exact fin_f hK (by cases x <;> cases y <;> simp_all)
theorem cxWout (x y : Bool) {K : AV → List Vm.Obj → Prop} (hK : K (.sb (x && !y)) []) : ACall Tryz.prog 111 [.sb x, .sb y] [] K := by
  refine ACall.bool (ofxWout rfl rfl ?_)
  (all_goals (repeat' ((conv => whnf); first | ((with_reducible refine sl_full ?_ ?_);exact gA)|((with_reducible refine Ob.intro ?_ ?_);exact gC)|(with_reducible first|refine br_lt ?_|refine br_lf ?_)|((with_reducible refine br_pos ?_ ?_);exact gB)|((with_reducible refine br_neg ?_ ?_);exact gB)|(with_reducible(refine br_t ?_ ?_;assumption))|(with_reducible(refine br_f ?_ ?_;assumption))|(with_reducible first|refine br_dec (fun h=>?_) fun h=>?_|refine br_not ?_|refine br_b (fun h=>?_) fun h=>?_)|((with_reducible first|refine wr_i64 rfl ?_ ?_ ?_|refine wr_u64 rfl ?_ ?_ ?_|refine wr_u32 rfl ?_ ?_ ?_);exact gB;exact gB)|(with_reducible first|refine And.intro ?_ ?_|refine True.intro|refine Stp.go ?_)))); (all_goals (conv => whnf))
  all_goals
    first
      | exact fin_s hK (by cases x <;> cases y <;> simp_all)
      | exact fin_t hK (by cases x <;> cases y <;> simp_all)
      | exact fin_f hK (by cases x <;> cases y <;> simp_all)
end Go.Proofs.YtokmdghjgegclaaGreatDoor

set_option linter.unusedVariables false
set_option linter.unusedSimpArgs false
set_option maxRecDepth 20000
set_option maxHeartbeats 2000000
namespace Go.Proofs.YtokmdghjgegclaaGreatDoor
open Go Go.Vm

/-- the closure of packetset.valid -/
theorem cxValC (x : Bx) {K : AV → List Vm.Obj → Prop} (hK : K (.sb (!decide x.ok)) []) : ACall Tryz.prog 156 [encX x] [] K := by
  refine ACall.bool (ofxValC rfl rfl ?_)
  (all_goals (repeat' ((conv => whnf); first | (with_reducible refine cxBVal x ?_)|((with_reducible refine sl_full ?_ ?_);exact gA)|((with_reducible refine Ob.intro ?_ ?_);exact gC)|(with_reducible first|refine br_lt ?_|refine br_lf ?_)|((with_reducible refine br_pos ?_ ?_);exact gB)|((with_reducible refine br_neg ?_ ?_);exact gB)|(with_reducible(refine br_t ?_ ?_;assumption))|(with_reducible(refine br_f ?_ ?_;assumption))|(with_reducible first|refine br_dec (fun h=>?_) fun h=>?_|refine br_not ?_|refine br_b (fun h=>?_) fun h=>?_)|((with_reducible first|refine wr_i64 rfl ?_ ?_ ?_|refine wr_u64 rfl ?_ ?_ ?_|refine wr_u32 rfl ?_ ?_ ?_);exact gB;exact gB)|(with_reducible first|refine And.intro ?_ ?_|refine True.intro|refine Stp.go ?_)))); (all_goals (conv => whnf))
  exact fin_s hK rfl
/-- slices.Clone -/
theorem cxClone (l : List Bx) (hl : l.length < 1000000000) {K : AV → List Vm.Obj → Prop} (hK0 : l = [] → K .nils []) (hK : K (.os 0 10 0 l.length) [.arr 10 (l.map encX)]) : ACall Tryz.prog 155 [encXs l] [] K := by
  refine ofxClone rfl rfl ?_
  (all_goals (repeat' ((conv => whnf); first | ((with_reducible refine sl_full ?_ ?_);exact gA)|((with_reducible refine Ob.intro ?_ ?_);exact gC)|(with_reducible first|refine br_lt ?_|refine br_lf ?_)|((with_reducible refine br_pos ?_ ?_);exact gB)|((with_reducible refine br_neg ?_ ?_);exact gB)|(with_reducible(refine br_t ?_ ?_;assumption))|(with_reducible(refine br_f ?_ ?_;assumption))|(with_reducible first|refine br_dec (fun h=>?_) fun h=>?_|refine br_not ?_|refine br_b (fun h=>?_) fun h=>?_)|((with_reducible first|refine wr_i64 rfl ?_ ?_ ?_|refine wr_u64 rfl ?_ ?_ ?_|refine wr_u32 rfl ?_ ?_ ?_);exact gB;exact gB)|(with_reducible first|refine And.intro ?_ ?_|refine True.intro|refine Stp.go ?_)))); (all_goals (conv => whnf))
  intro b hb
  (all_goals (repeat' ((conv => whnf); first | ((with_reducible refine sl_full ?_ ?_);exact gA)|((with_reducible refine Ob.intro ?_ ?_);exact gC)|(with_reducible first|refine br_lt ?_|refine br_lf ?_)|((with_reducible refine br_pos ?_ ?_);exact gB)|((with_reducible refine br_neg ?_ ?_);exact gB)|(with_reducible(refine br_t ?_ ?_;assumption))|(with_reducible(refine br_f ?_ ?_;assumption))|(with_reducible first|refine br_dec (fun h=>?_) fun h=>?_|refine br_not ?_|refine br_b (fun h=>?_) fun h=>?_)|((with_reducible first|refine wr_i64 rfl ?_ ?_ ?_|refine wr_u64 rfl ?_ ?_ ?_|refine wr_u32 rfl ?_ ?_ ?_);exact gB;exact gB)|(with_reducible first|refine And.intro ?_ ?_|refine True.intro|refine Stp.go ?_)))); (all_goals (conv => whnf))
  · exact hK0 (List.map_eq_nil_iff.1 (hb (by assumption)))
  · have e : 0 + (l.map encX).length = l.length := by rw [List.length_map]; omega
    show K (.os 0 10 0 (0 + (l.map encX).length)) [.arr 10 (l.map encX)]
    rw [e]
    exact hK
/-- slices.IndexFunc of the closure: the first box that is not valid -/
theorem cxIdx (l : List Bx) (hl : l.length < 1000000000) {K : AV → List Vm.Obj → Prop} (hK1 : (∀ x, x ∈ l → x.ok) → K (.v (.int .i64 (-1))) [])
    (hK2 : ∀ (i : Nat) x, l[i]? = some x → ¬ x.ok → (∀ y, y ∈ l.take i → y.ok) → K (.v (.int .i64 i)) []) :
    ACall Tryz.prog 193 [encXs l, .fn (.func 156) [] []] [] K := by
  refine ofxIdx rfl rfl ?_
  (all_goals (repeat' ((conv => whnf); first | ((with_reducible refine sl_full ?_ ?_);exact gA)|((with_reducible refine Ob.intro ?_ ?_);exact gC)|(with_reducible first|refine br_lt ?_|refine br_lf ?_)|((with_reducible refine br_pos ?_ ?_);exact gB)|((with_reducible refine br_neg ?_ ?_);exact gB)|(with_reducible(refine br_t ?_ ?_;assumption))|(with_reducible(refine br_f ?_ ?_;assumption))|(with_reducible first|refine br_dec (fun h=>?_) fun h=>?_|refine br_not ?_|refine br_b (fun h=>?_) fun h=>?_)|((with_reducible first|refine wr_i64 rfl ?_ ?_ ?_|refine wr_u64 rfl ?_ ?_ ?_|refine wr_u32 rfl ?_ ?_ ?_);exact gB;exact gB)|(with_reducible first|refine And.intro ?_ ?_|refine True.intro|refine Stp.go ?_)))); (all_goals (conv => whnf))
  refine Lp.intro Nat (fun k => ⟨0, [], [(0, encXs l), (1, .fn (.func 156) [] []), (7, .v (.int .i64 ((l.map encX).length : Nat))), (8, .v (.int .i64 k))]⟩) (fun k => k ≤ l.length ∧ ∀ y, y ∈ l.take k → y.ok) (fun k => l.length - k) 0 ⟨Nat.zero_le _, by simp⟩ ?_ ?_
  · (refine Le.auto ?_; repeat' ((conv => whnf); first | with_reducible refine And.intro ?_ ?_ | with_reducible exact True.intro | rfl))
  intro k ⟨hk, hin⟩
  rcases Nat.lt_or_ge k l.length with hkl | hkl
  · obtain ⟨x, hx⟩ : ∃ x, l[k]? = some x := ⟨_, List.getElem?_eq_getElem hkl⟩
    (all_goals (repeat' ((conv => whnf); first | (with_reducible first|refine in_map hkl ?_|refine ix_map hx ?_|refine cxValC x ?_)|((with_reducible refine sl_full ?_ ?_);exact gA)|((with_reducible refine Ob.intro ?_ ?_);exact gC)|(with_reducible first|refine br_lt ?_|refine br_lf ?_)|((with_reducible refine br_pos ?_ ?_);exact gB)|((with_reducible refine br_neg ?_ ?_);exact gB)|(with_reducible(refine br_t ?_ ?_;assumption))|(with_reducible(refine br_f ?_ ?_;assumption))|(with_reducible first|refine br_dec (fun h=>?_) fun h=>?_|refine br_not ?_|refine br_b (fun h=>?_) fun h=>?_)|((with_reducible first|refine wr_i64 rfl ?_ ?_ ?_|refine wr_u64 rfl ?_ ?_ ?_|refine wr_u32 rfl ?_ ?_ ?_);exact gB;exact gB)|(with_reducible first|refine And.intro ?_ ?_|refine True.intro|refine Stp.go ?_)))); (all_goals (conv => whnf))
    all_goals first
      | exact hK2 k x hx (by simpa using h) hin
      | (refine ⟨k + 1, ⟨hkl, fun y hy => ?_⟩, by omega, ?_⟩
         · rw [List.take_add_one, hx] at hy
           rcases List.mem_append.1 hy with hy | hy
           · exact hin y hy
           · simp only [Option.toList_some, List.mem_singleton] at hy
             subst hy
             simpa using h
         · rw [Int.natCast_add, Int.natCast_one]
           (refine Le.auto ?_; repeat' ((conv => whnf); first | with_reducible refine And.intro ?_ ?_ | with_reducible exact True.intro | rfl)))
  · rw [List.take_of_length_le hkl] at hin
    (all_goals (repeat' ((conv => whnf); first | ((with_reducible refine sl_full ?_ ?_);exact gA)|((with_reducible refine Ob.intro ?_ ?_);exact gC)|(with_reducible first|refine br_lt ?_|refine br_lf ?_)|((with_reducible refine br_pos ?_ ?_);exact gB)|((with_reducible refine br_neg ?_ ?_);exact gB)|(with_reducible(refine br_t ?_ ?_;assumption))|(with_reducible(refine br_f ?_ ?_;assumption))|(with_reducible first|refine br_dec (fun h=>?_) fun h=>?_|refine br_not ?_|refine br_b (fun h=>?_) fun h=>?_)|((with_reducible first|refine wr_i64 rfl ?_ ?_ ?_|refine wr_u64 rfl ?_ ?_ ?_|refine wr_u32 rfl ?_ ?_ ?_);exact gB;exact gB)|(with_reducible first|refine And.intro ?_ ?_|refine True.intro|refine Stp.go ?_)))); (all_goals (conv => whnf))
    exact hK1 hin
/-- slices.DeleteFunc of the closure -/
theorem cxDel (l : List Bx) (hl : l.length < 1000000000) {K : AV → List Vm.Obj → Prop} (hK : ∀ zs, K (.os 0 10 0 (vldB l).length) [.arr 10 ((vldB l).map encX ++ zs)]) :
    ACall Tryz.prog 154 [.os 0 10 0 l.length, .fn (.func 156) [] []] [.arr 10 (l.map encX)] K := by
  refine ofxDel rfl rfl ?_
  (all_goals (repeat' ((conv => whnf); first | ((with_reducible refine sl_full ?_ ?_);exact gA)|((with_reducible refine Ob.intro ?_ ?_);exact gC)|(with_reducible first|refine br_lt ?_|refine br_lf ?_)|((with_reducible refine br_pos ?_ ?_);exact gB)|((with_reducible refine br_neg ?_ ?_);exact gB)|(with_reducible(refine br_t ?_ ?_;assumption))|(with_reducible(refine br_f ?_ ?_;assumption))|(with_reducible first|refine br_dec (fun h=>?_) fun h=>?_|refine br_not ?_|refine br_b (fun h=>?_) fun h=>?_)|((with_reducible first|refine wr_i64 rfl ?_ ?_ ?_|refine wr_u64 rfl ?_ ?_ ?_|refine wr_u32 rfl ?_ ?_ ?_);exact gB;exact gB)|(with_reducible first|refine And.intro ?_ ?_|refine True.intro|refine Stp.go ?_)))); (all_goals (conv => whnf))
  refine cxIdx l hl (fun hall => ?_) (fun i x hx hbad hbef => ?_)
  · have e : vldB l = l := List.filter_eq_self.2 fun y hy => by simpa using hall y hy
    have := hK []
    rw [e, List.append_nil] at this
    (all_goals (repeat' ((conv => whnf); first | ((with_reducible refine sl_full ?_ ?_);exact gA)|((with_reducible refine Ob.intro ?_ ?_);exact gC)|(with_reducible first|refine br_lt ?_|refine br_lf ?_)|((with_reducible refine br_pos ?_ ?_);exact gB)|((with_reducible refine br_neg ?_ ?_);exact gB)|(with_reducible(refine br_t ?_ ?_;assumption))|(with_reducible(refine br_f ?_ ?_;assumption))|(with_reducible first|refine br_dec (fun h=>?_) fun h=>?_|refine br_not ?_|refine br_b (fun h=>?_) fun h=>?_)|((with_reducible first|refine wr_i64 rfl ?_ ?_ ?_|refine wr_u64 rfl ?_ ?_ ?_|refine wr_u32 rfl ?_ ?_ ?_);exact gB;exact gB)|(with_reducible first|refine And.intro ?_ ?_|refine True.intro|refine Stp.go ?_)))); (all_goals (conv => whnf))
    exact this
  · have hil : i < l.length := (List.getElem?_eq_some_iff.1 hx).1
    have e0 : vldB (l.take i) = l.take i := List.filter_eq_self.2 fun y hy => by simpa using hbef y hy
    have e1 : vldB (l.take (i + 1)) = l.take i := by rw [vldB_succ hx, if_neg hbad, e0, List.append_nil]
    have e2 : (l.take i).length = i := by rw [List.length_take]; omega
    (all_goals (repeat' ((conv => whnf); first | ((with_reducible refine sl_full ?_ ?_);exact gA)|((with_reducible refine Ob.intro ?_ ?_);exact gC)|(with_reducible first|refine br_lt ?_|refine br_lf ?_)|((with_reducible refine br_pos ?_ ?_);exact gB)|((with_reducible refine br_neg ?_ ?_);exact gB)|(with_reducible(refine br_t ?_ ?_;assumption))|(with_reducible(refine br_f ?_ ?_;assumption))|(with_reducible first|refine br_dec (fun h=>?_) fun h=>?_|refine br_not ?_|refine br_b (fun h=>?_) fun h=>?_)|((with_reducible first|refine wr_i64 rfl ?_ ?_ ?_|refine wr_u64 rfl ?_ ?_ ?_|refine wr_u32 rfl ?_ ?_ ?_);exact gB;exact gB)|(with_reducible first|refine And.intro ?_ ?_|refine True.intro|refine Stp.go ?_)))); (all_goals (conv => whnf))
    refine Lp.intro Nat (fun j => ⟨1, [(0, .arr 10 ((vldB (l.take j) ++ l.drop (vldB (l.take j)).length).map encX))], [(0, .os 0 10 0 l.length), (1, .fn (.func 156) [] []), (5, .v (.int .i64 (vldB (l.take j)).length)), (6, .v (.int .i64 j))]⟩) (fun j => j ≤ l.length ∧ (vldB (l.take j)).length < j) (fun j => l.length - j) (i + 1) ⟨hil, by rw [e1, e2]; omega⟩ ?_ ?_
    · rw [e1, e2, List.take_append_drop, Int.natCast_add, Int.natCast_one]
      (refine Le.auto ?_; repeat' ((conv => whnf); first | with_reducible refine And.intro ?_ ?_ | with_reducible exact True.intro | rfl))
    intro j ⟨hj1, hj2⟩
    rcases Nat.lt_or_ge j l.length with hjl | hjl
    · obtain ⟨y, hy⟩ : ∃ y, l[j]? = some y := ⟨_, List.getElem?_eq_getElem hjl⟩
      have hs := vldB_succ hy
      generalize hC : vldB (l.take j) = C at *
      have hget : ∀ i, C.length ≤ i → (C ++ l.drop C.length)[i]? = l[i]? := fun i hi => by
        rw [List.getElem?_append_right hi, List.getElem?_drop]
        congr 1; omega
      have hCn : C.length < l.length := by omega
      have hy0 : (C ++ l.drop C.length)[0 + j]? = some y := by rw [Nat.zero_add, hget _ (by omega)]; exact hy
      obtain ⟨z, hz⟩ : ∃ z, l[C.length]? = some z := ⟨_, List.getElem?_eq_getElem hCn⟩
      have hz0 : (C ++ l.drop C.length)[0 + C.length]? = some z := by rw [Nat.zero_add, hget _ (Nat.le_refl _)]; exact hz
      have hdr : l.drop C.length = z :: l.drop (C.length + 1) := by
        rw [List.getElem?_eq_getElem hCn] at hz
        rw [← Option.some.inj hz, ← List.drop_eq_getElem_cons hCn]
      have hset : ((C ++ l.drop C.length).map encX).set (0 + C.length) (encX y) = ((C ++ [y]) ++ l.drop (C ++ [y]).length).map encX := by
        rw [Nat.zero_add, ← List.map_set, List.set_append_right _ _ (Nat.le_refl _), Nat.sub_self, hdr]
        simp
      (all_goals (repeat' ((conv => whnf); first | (with_reducible first|refine in_nat hjl ?_|refine ix_map hy0 ?_|refine cxValC y ?_|refine in_nat hCn ?_|refine ix_map hz0 ?_)|((with_reducible refine sl_full ?_ ?_);exact gA)|((with_reducible refine Ob.intro ?_ ?_);exact gC)|(with_reducible first|refine br_lt ?_|refine br_lf ?_)|((with_reducible refine br_pos ?_ ?_);exact gB)|((with_reducible refine br_neg ?_ ?_);exact gB)|(with_reducible(refine br_t ?_ ?_;assumption))|(with_reducible(refine br_f ?_ ?_;assumption))|(with_reducible first|refine br_dec (fun h=>?_) fun h=>?_|refine br_not ?_|refine br_b (fun h=>?_) fun h=>?_)|((with_reducible first|refine wr_i64 rfl ?_ ?_ ?_|refine wr_u64 rfl ?_ ?_ ?_|refine wr_u32 rfl ?_ ?_ ?_);exact gB;exact gB)|(with_reducible first|refine And.intro ?_ ?_|refine True.intro|refine Stp.go ?_)))); (all_goals (conv => whnf))
      · rw [if_pos h] at hs
        refine ⟨j + 1, ⟨hjl, by rw [hs, List.length_append]; simp; omega⟩, by omega, ?_⟩
        rw [hs, ← hset, show ((C ++ [y]).length : Int) = (C.length : Int) + 1 by simp, Int.natCast_add j, Int.natCast_one]
        (refine Le.auto ?_; repeat' ((conv => whnf); first | with_reducible refine And.intro ?_ ?_ | with_reducible exact True.intro | rfl))
      · rw [if_neg h, List.append_nil] at hs
        refine ⟨j + 1, ⟨hjl, by rw [hs]; omega⟩, by omega, ?_⟩
        rw [hs, Int.natCast_add j, Int.natCast_one]
        (refine Le.auto ?_; repeat' ((conv => whnf); first | with_reducible refine And.intro ?_ ?_ | with_reducible exact True.intro | rfl))
    · have hCl : vldB (l.take j) = vldB l := by rw [List.take_of_length_le hjl]
      have hCn : (vldB l).length ≤ l.length := vldB_len l
      rw [hCl]
      (all_goals (repeat' ((conv => whnf); first | (refine Sb.intro (vldB l).length l.length rfl rfl hCn (Nat.le_refl _) ?_)|(refine Sb.intro 0 (vldB l).length rfl rfl (Nat.zero_le _) hCn ?_)|((with_reducible refine sl_full ?_ ?_);exact gA)|((with_reducible refine Ob.intro ?_ ?_);exact gC)|(with_reducible first|refine br_lt ?_|refine br_lf ?_)|((with_reducible refine br_pos ?_ ?_);exact gB)|((with_reducible refine br_neg ?_ ?_);exact gB)|(with_reducible(refine br_t ?_ ?_;assumption))|(with_reducible(refine br_f ?_ ?_;assumption))|(with_reducible first|refine br_dec (fun h=>?_) fun h=>?_|refine br_not ?_|refine br_b (fun h=>?_) fun h=>?_)|((with_reducible first|refine wr_i64 rfl ?_ ?_ ?_|refine wr_u64 rfl ?_ ?_ ?_|refine wr_u32 rfl ?_ ?_ ?_);exact gB;exact gB)|(with_reducible first|refine And.intro ?_ ?_|refine True.intro|refine Stp.go ?_)))); (all_goals (conv => whnf))
      have e3 : (List.map encX (vldB l ++ l.drop (vldB l).length)).take (0 + (vldB l).length) = (vldB l).map encX := by
        rw [Nat.zero_add, List.map_append, List.take_left' (by simp)]
      rw [e3, Nat.add_zero, Nat.sub_zero]
      exact hK _
theorem cxIdx0 {K : AV → List Vm.Obj → Prop} (hK : K (.v (.int .i64 (-1))) []) :
    ACall Tryz.prog 193 [.lst [], .fn (.func 156) [] []] [] K :=
  cxIdx [] (by decide) (fun _ => hK) (fun i x h => by simp at h)
theorem cxDel0 {K : AV → List Vm.Obj → Prop} (hK : K .nils []) :
    ACall Tryz.prog 154 [.nils, .fn (.func 156) [] []] [] K := by
  refine ofxDel0 rfl rfl ?_
  (all_goals (repeat' ((conv => whnf); first | (with_reducible refine cxIdx0 ?_)|((with_reducible refine sl_full ?_ ?_);exact gA)|((with_reducible refine Ob.intro ?_ ?_);exact gC)|(with_reducible first|refine br_lt ?_|refine br_lf ?_)|((with_reducible refine br_pos ?_ ?_);exact gB)|((with_reducible refine br_neg ?_ ?_);exact gB)|(with_reducible(refine br_t ?_ ?_;assumption))|(with_reducible(refine br_f ?_ ?_;assumption))|(with_reducible first|refine br_dec (fun h=>?_) fun h=>?_|refine br_not ?_|refine br_b (fun h=>?_) fun h=>?_)|((with_reducible first|refine wr_i64 rfl ?_ ?_ ?_|refine wr_u64 rfl ?_ ?_ ?_|refine wr_u32 rfl ?_ ?_ ?_);exact gB;exact gB)|(with_reducible first|refine And.intro ?_ ?_|refine True.intro|refine Stp.go ?_)))); (all_goals (conv => whnf))
  exact hK
/-- packetset.valid -/
theorem cxVal (l : List Bx) (hl : l.length < 1000000000) {K : AV → List Vm.Obj → Prop} (hK : K (encXs (vldB l)) []) : ACall Tryz.prog 108 [encXs l] [] K := by
  refine ACall.weak (ofxVal rfl rfl ?_)
  (all_goals (repeat' ((conv => whnf); first | ((with_reducible refine sl_full ?_ ?_);exact gA)|((with_reducible refine Ob.intro ?_ ?_);exact gC)|(with_reducible first|refine br_lt ?_|refine br_lf ?_)|((with_reducible refine br_pos ?_ ?_);exact gB)|((with_reducible refine br_neg ?_ ?_);exact gB)|(with_reducible(refine br_t ?_ ?_;assumption))|(with_reducible(refine br_f ?_ ?_;assumption))|(with_reducible first|refine br_dec (fun h=>?_) fun h=>?_|refine br_not ?_|refine br_b (fun h=>?_) fun h=>?_)|((with_reducible first|refine wr_i64 rfl ?_ ?_ ?_|refine wr_u64 rfl ?_ ?_ ?_|refine wr_u32 rfl ?_ ?_ ?_);exact gB;exact gB)|(with_reducible first|refine And.intro ?_ ?_|refine True.intro|refine Stp.go ?_)))); (all_goals (conv => whnf))
  refine cxClone l hl (fun e => ?_) ?_
  · subst e
    (all_goals (repeat' ((conv => whnf); first | (with_reducible refine cxDel0 ?_)|((with_reducible refine sl_full ?_ ?_);exact gA)|((with_reducible refine Ob.intro ?_ ?_);exact gC)|(with_reducible first|refine br_lt ?_|refine br_lf ?_)|((with_reducible refine br_pos ?_ ?_);exact gB)|((with_reducible refine br_neg ?_ ?_);exact gB)|(with_reducible(refine br_t ?_ ?_;assumption))|(with_reducible(refine br_f ?_ ?_;assumption))|(with_reducible first|refine br_dec (fun h=>?_) fun h=>?_|refine br_not ?_|refine br_b (fun h=>?_) fun h=>?_)|((with_reducible first|refine wr_i64 rfl ?_ ?_ ?_|refine wr_u64 rfl ?_ ?_ ?_|refine wr_u32 rfl ?_ ?_ ?_);exact gB;exact gB)|(with_reducible first|refine And.intro ?_ ?_|refine True.intro|refine Stp.go ?_)))); (all_goals (conv => whnf))
    exact ⟨_, Weak.nils, hK⟩
  · (all_goals (repeat' ((conv => whnf); first | (with_reducible refine cxDel l hl fun zs => ?_)|((with_reducible refine sl_full ?_ ?_);exact gA)|((with_reducible refine Ob.intro ?_ ?_);exact gC)|(with_reducible first|refine br_lt ?_|refine br_lf ?_)|((with_reducible refine br_pos ?_ ?_);exact gB)|((with_reducible refine br_neg ?_ ?_);exact gB)|(with_reducible(refine br_t ?_ ?_;assumption))|(with_reducible(refine br_f ?_ ?_;assumption))|(with_reducible first|refine br_dec (fun h=>?_) fun h=>?_|refine br_not ?_|refine br_b (fun h=>?_) fun h=>?_)|((with_reducible first|refine wr_i64 rfl ?_ ?_ ?_|refine wr_u64 rfl ?_ ?_ ?_|refine wr_u32 rfl ?_ ?_ ?_);exact gB;exact gB)|(with_reducible first|refine And.intro ?_ ?_|refine True.intro|refine Stp.go ?_)))); (all_goals (conv => whnf))
    refine Sl.intro (ys := (vldB l).map encX) (by simp) (by rw [List.drop_zero, List.take_left' (by simp)]) ?_
    exact ⟨_, Weak.refl, hK⟩
end Go.Proofs.YtokmdghjgegclaaGreatDoor

set_option linter.unusedVariables false
set_option linter.unusedSimpArgs false
set_option maxRecDepth 20000
set_option maxHeartbeats 2000000
namespace Go.Proofs.YtokmdghjgegclaaGreatDoor
open Go Go.Vm

/-- packetset.covering -/
theorem cxCov (l : List Bx) (f : Nat) (hf : f ≤ 4) (v : Int) (hl : l.length < 1000000000000) {K : AV → List Vm.Obj → Prop} (hK : K (encXs (atF f v l)) []) : ACall Tryz.prog 195 [encXs l, .v (.int .i64 f), .v (.int .u32 v)] [] K := by
  refine ofxCov rfl rfl ?_
  (all_goals (repeat' ((conv => whnf); first | ((with_reducible refine sl_full ?_ ?_);exact gA)|((with_reducible refine Ob.intro ?_ ?_);exact gC)|(with_reducible first|refine br_lt ?_|refine br_lf ?_)|((with_reducible refine br_pos ?_ ?_);exact gB)|((with_reducible refine br_neg ?_ ?_);exact gB)|(with_reducible(refine br_t ?_ ?_;assumption))|(with_reducible(refine br_f ?_ ?_;assumption))|(with_reducible first|refine br_dec (fun h=>?_) fun h=>?_|refine br_not ?_|refine br_b (fun h=>?_) fun h=>?_)|((with_reducible first|refine wr_i64 rfl ?_ ?_ ?_|refine wr_u64 rfl ?_ ?_ ?_|refine wr_u32 rfl ?_ ?_ ?_);exact gB;exact gB)|(with_reducible first|refine And.intro ?_ ?_|refine True.intro|refine Stp.go ?_)))); (all_goals (conv => whnf))
  refine Lp.intro Nat (fun k => ⟨1, [(0, .arr 10 ((atF f v (l.take k)).map encX))], [(1, .v (.int .i64 f)), (2, .v (.int .u32 v)), (7, .os 0 10 0 (atF f v (l.take k)).length), (10, encXs l), (11, .v (.int .i64 l.length)), (12, .v (.int .i64 k))]⟩) (fun k => k ≤ l.length) (fun k => l.length - k) 0 (Nat.zero_le _) ?_ ?_
  · have e1 : (List.map encX l).length = l.length := List.length_map ..
    rw [e1]
    (refine Le.auto ?_; repeat' ((conv => whnf); first | with_reducible refine And.intro ?_ ?_ | with_reducible exact True.intro | rfl))
  intro k hk
  have hlen := atF_len f v (l.take k)
  rw [List.length_take] at hlen
  rcases Nat.lt_or_ge k l.length with hkl | hkl
  · obtain ⟨x, hx⟩ : ∃ x, l[k]? = some x := ⟨_, List.getElem?_eq_getElem hkl⟩
    have hs := atF_succ (f := f) (v := v) hx
    rcases f with _ | _ | _ | _ | _ | f
    case succ.succ.succ.succ.succ => omega
    all_goals
      simp only [Bx.get] at hs
      (all_goals (repeat' ((conv => whnf); first | (with_reducible first|refine in_map hkl ?_|refine in_nat hkl ?_|refine ix_map hx ?_)|(refine in_c (by decide) ?_)|((with_reducible refine sl_full ?_ ?_);exact gA)|((with_reducible refine Ob.intro ?_ ?_);exact gC)|(with_reducible first|refine br_lt ?_|refine br_lf ?_)|((with_reducible refine br_pos ?_ ?_);exact gB)|((with_reducible refine br_neg ?_ ?_);exact gB)|(with_reducible(refine br_t ?_ ?_;assumption))|(with_reducible(refine br_f ?_ ?_;assumption))|(with_reducible first|refine br_dec (fun h=>?_) fun h=>?_|refine br_not ?_|refine br_b (fun h=>?_) fun h=>?_)|((with_reducible first|refine wr_i64 rfl ?_ ?_ ?_|refine wr_u64 rfl ?_ ?_ ?_|refine wr_u32 rfl ?_ ?_ ?_);exact gB;exact gB)|(with_reducible first|refine And.intro ?_ ?_|refine True.intro|refine Stp.go ?_)))); (all_goals (conv => whnf))
      all_goals
        refine ⟨k + 1, by omega, by omega, ?_⟩
        first
          | (rw [if_pos (by omega)] at hs
             rw [hs, List.map_append, List.length_append]
             (refine Le.auto ?_; repeat' ((conv => whnf); first | with_reducible refine And.intro ?_ ?_ | with_reducible exact True.intro | rfl))
             done)
          | (rw [if_neg (by omega), List.append_nil] at hs
             rw [hs]
             (refine Le.auto ?_; repeat' ((conv => whnf); first | with_reducible refine And.intro ?_ ?_ | with_reducible exact True.intro | rfl))
             done)
  · (all_goals (repeat' ((conv => whnf); first | ((with_reducible refine sl_full ?_ ?_);exact gA)|((with_reducible refine Ob.intro ?_ ?_);exact gC)|(with_reducible first|refine br_lt ?_|refine br_lf ?_)|((with_reducible refine br_pos ?_ ?_);exact gB)|((with_reducible refine br_neg ?_ ?_);exact gB)|(with_reducible(refine br_t ?_ ?_;assumption))|(with_reducible(refine br_f ?_ ?_;assumption))|(with_reducible first|refine br_dec (fun h=>?_) fun h=>?_|refine br_not ?_|refine br_b (fun h=>?_) fun h=>?_)|((with_reducible first|refine wr_i64 rfl ?_ ?_ ?_|refine wr_u64 rfl ?_ ?_ ?_|refine wr_u32 rfl ?_ ?_ ?_);exact gB;exact gB)|(with_reducible first|refine And.intro ?_ ?_|refine True.intro|refine Stp.go ?_)))); (all_goals (conv => whnf))
    rw [List.take_of_length_le hkl] at *
    (all_goals (repeat' ((conv => whnf); first | ((with_reducible refine sl_full ?_ ?_);exact gA)|((with_reducible refine Ob.intro ?_ ?_);exact gC)|(with_reducible first|refine br_lt ?_|refine br_lf ?_)|((with_reducible refine br_pos ?_ ?_);exact gB)|((with_reducible refine br_neg ?_ ?_);exact gB)|(with_reducible(refine br_t ?_ ?_;assumption))|(with_reducible(refine br_f ?_ ?_;assumption))|(with_reducible first|refine br_dec (fun h=>?_) fun h=>?_|refine br_not ?_|refine br_b (fun h=>?_) fun h=>?_)|((with_reducible first|refine wr_i64 rfl ?_ ?_ ?_|refine wr_u64 rfl ?_ ?_ ?_|refine wr_u32 rfl ?_ ?_ ?_);exact gB;exact gB)|(with_reducible first|refine And.intro ?_ ?_|refine True.intro|refine Stp.go ?_)))); (all_goals (conv => whnf))
    exact hK
end Go.Proofs.YtokmdghjgegclaaGreatDoor

set_option linter.unusedVariables false
set_option maxRecDepth 20000
namespace Go.Proofs.YtokmdghjgegclaaGreatDoor
open Go Go.Vm

/-- cmp.isNaN[uint64] -/
noncomputable def gsNaN : Ctx := { N := 6, np := 0, own := fun _ => false, plan := fun _ => none, hints := fun _ => [], cut := fun _ => false }
noncomputable def bsNaN : Code := match Tryz.f240.body with | some c => c | none => .skip
theorem ofsNaN {args : List AV} {hs : List Vm.Obj} {K : AV → List Vm.Obj → Prop} (hp : Nat.beq gsNaN.np hs.length = true) (ha : Nat.ble args.length 6 = true) (hq : initQ hs args fun σ => codeQ Tryz.prog gsNaN bsNaN σ (retQ Tryz.prog gsNaN Tryz.f240.results.toList K)) : ACall Tryz.prog 240 args hs K :=
  ACall.of_code (Γ := gsNaN) Tryz.func240 (by kernel_rfl) (by kernel_rfl) (by kernel_rfl) (by kernel_rfl) (Nat.eq_of_beq_eq_true hp) ha hq
/-- cmp.Less[uint64] -/
noncomputable def gsLess : Ctx := { N := 17, np := 0, own := fun _ => false, plan := fun _ => none, hints := fun _ => [], cut := fun _ => false }
noncomputable def bsLess : Code := match Tryz.f230.body with | some c => c | none => .skip
theorem ofsLess {args : List AV} {hs : List Vm.Obj} {K : AV → List Vm.Obj → Prop} (hp : Nat.beq gsLess.np hs.length = true) (ha : Nat.ble args.length 17 = true) (hq : initQ hs args fun σ => codeQ Tryz.prog gsLess bsLess σ (retQ Tryz.prog gsLess Tryz.f230.results.toList K)) : ACall Tryz.prog 230 args hs K :=
  ACall.of_code (Γ := gsLess) Tryz.func230 (by kernel_rfl) (by kernel_rfl) (by kernel_rfl) (by kernel_rfl) (Nat.eq_of_beq_eq_true hp) ha hq
/-- slices.insertionSortOrdered[uint64] -/
noncomputable def gsIns : Ctx := { N := 49, np := 1, own := fun _ => false, plan := fun i => match Nat.beq i 4 with | true => some (lin [(0, true), (1, true), (2, true), (3, true), (4, true), (5, true), (6, true), (7, true), (8, true), (9, true), (10, true), (11, true), (12, true), (13, false), (14, true)]) | false => match Nat.beq i 6 with | true => some (lin [(0, true), (1, true), (2, true), (3, true), (4, true), (5, true), (6, true), (7, true), (8, true), (9, true), (10, true), (11, true), (12, true), (13, true), (14, true), (15, false), (16, true), (17, false)]) | false => none, hints := fun _ => [], cut := fun _ => false }
noncomputable def bsIns : Code := match Tryz.f224.body with | some c => c | none => .skip
theorem ofsIns {args : List AV} {hs : List Vm.Obj} {K : AV → List Vm.Obj → Prop} (hp : Nat.beq gsIns.np hs.length = true) (ha : Nat.ble args.length 49 = true) (hq : initQ hs args fun σ => codeQ Tryz.prog gsIns bsIns σ (retQ Tryz.prog gsIns Tryz.f224.results.toList K)) : ACall Tryz.prog 224 args hs K :=
  ACall.of_code (Γ := gsIns) Tryz.func224 (by kernel_rfl) (by kernel_rfl) (by kernel_rfl) (by kernel_rfl) (Nat.eq_of_beq_eq_true hp) ha hq
/-- slices.siftDownOrdered[uint64] -/
noncomputable def gsSift : Ctx := { N := 76, np := 1, own := fun _ => false, plan := fun i => match Nat.beq i 3 with | true => some (lin [(0, true), (1, true), (2, true), (3, true), (4, true), (5, true), (6, true), (7, true), (8, true), (9, true), (10, true), (11, true), (12, true), (13, true), (14, true), (15, true), (16, true), (17, true), (18, false), (19, true)]) | false => match Nat.beq i 5 with | true => some (lin [(0, true), (1, true), (2, true), (3, true), (4, true), (5, true), (6, true), (7, true), (8, true), (9, true), (10, true), (11, true), (12, false), (13, true)]) | false => match Nat.beq i 6 with | true => some (lin [(0, true), (1, true), (2, true), (3, true), (4, true), (5, true), (6, true), (7, true), (8, true), (9, true), (10, true), (11, true), (12, true), (13, true), (14, true), (15, true), (16, true), (17, true), (18, true), (19, true), (20, true), (21, false), (22, true), (23, false)]) | false => none, hints := fun _ => [], cut := fun _ => false }
noncomputable def bsSift : Code := match Tryz.f235.body with | some c => c | none => .skip
theorem ofsSift {args : List AV} {hs : List Vm.Obj} {K : AV → List Vm.Obj → Prop} (hp : Nat.beq gsSift.np hs.length = true) (ha : Nat.ble args.length 76 = true) (hq : initQ hs args fun σ => codeQ Tryz.prog gsSift bsSift σ (retQ Tryz.prog gsSift Tryz.f235.results.toList K)) : ACall Tryz.prog 235 args hs K :=
  ACall.of_code (Γ := gsSift) Tryz.func235 (by kernel_rfl) (by kernel_rfl) (by kernel_rfl) (by kernel_rfl) (Nat.eq_of_beq_eq_true hp) ha hq
/-- slices.heapSortOrdered[uint64] -/
noncomputable def gsHeap : Ctx := { N := 56, np := 1, own := fun i => match Nat.beq i 235 with | true => true | false => false, plan := fun i => match Nat.beq i 10 with | true => some (lin [(0, true), (1, true), (2, true), (3, true), (4, true), (5, true), (6, true), (7, true), (8, true), (9, true), (10, true), (11, true), (12, true), (13, true), (14, true), (15, true), (16, true), (17, false), (18, true), (19, false)]) | false => none, hints := fun _ => [], cut := fun _ => false }
noncomputable def bsHeap : Code := match Tryz.f225.body with | some c => c | none => .skip
theorem ofsHeap {args : List AV} {hs : List Vm.Obj} {K : AV → List Vm.Obj → Prop} (hp : Nat.beq gsHeap.np hs.length = true) (ha : Nat.ble args.length 56 = true) (hq : initQ hs args fun σ => codeQ Tryz.prog gsHeap bsHeap σ (retQ Tryz.prog gsHeap Tryz.f225.results.toList K)) : ACall Tryz.prog 225 args hs K :=
  ACall.of_code (Γ := gsHeap) Tryz.func225 (by kernel_rfl) (by kernel_rfl) (by kernel_rfl) (by kernel_rfl) (Nat.eq_of_beq_eq_true hp) ha hq
/-- slices.reverseRangeOrdered[uint64] -/
noncomputable def gsRev : Ctx := { N := 32, np := 1, own := fun _ => false, plan := fun i => match Nat.beq i 3 with | true => some (lin [(0, true), (1, true), (2, true), (3, true), (4, true), (5, true), (6, true), (7, true), (8, true), (9, true), (10, true), (11, true), (12, true), (13, false), (14, true), (15, false)]) | false => none, hints := fun _ => [], cut := fun _ => false }
noncomputable def bsRev : Code := match Tryz.f228.body with | some c => c | none => .skip
theorem ofsRev {args : List AV} {hs : List Vm.Obj} {K : AV → List Vm.Obj → Prop} (hp : Nat.beq gsRev.np hs.length = true) (ha : Nat.ble args.length 32 = true) (hq : initQ hs args fun σ => codeQ Tryz.prog gsRev bsRev σ (retQ Tryz.prog gsRev Tryz.f228.results.toList K)) : ACall Tryz.prog 228 args hs K :=
  ACall.of_code (Γ := gsRev) Tryz.func228 (by kernel_rfl) (by kernel_rfl) (by kernel_rfl) (by kernel_rfl) (Nat.eq_of_beq_eq_true hp) ha hq
/-- slices.partitionOrdered[uint64] -/
noncomputable def gsPart : Ctx := { N := 168, np := 1, own := fun _ => false, plan := fun i => match Nat.beq i 1 with | true => some (lin [(0, true), (1, true), (2, true), (3, true), (4, true), (5, true), (6, true), (7, true), (8, true), (9, true), (10, true), (11, true), (12, true), (13, false), (14, true), (15, false)]) | false => match Nat.beq i 3 with | true => some (lin [(0, true), (1, true), (2, true), (3, true), (4, true), (5, true), (6, true), (7, true), (8, true), (9, true), (10, true), (11, true), (12, false), (13, true)]) | false => match Nat.beq i 5 with | true => some (lin [(0, true), (1, true), (2, true), (3, true), (4, true), (5, true), (6, true), (7, true), (8, true), (9, true), (10, true), (11, true), (12, false), (13, true), (14, true)]) | false => match Nat.beq i 8 with | true => some (lin [(0, true), (1, true), (2, true), (3, true), (4, true), (5, true), (6, true), (7, true), (8, true), (9, true), (10, true), (11, true), (12, true), (13, false), (14, true), (15, false)]) | false => match Nat.beq i 10 with | true => some (lin [(0, true), (1, true), (2, true), (3, true), (4, true), (5, true), (6, true), (7, true), (8, true), (9, true), (10, true), (11, true), (12, true), (13, false), (14, true), (15, false)]) | false => match Nat.beq i 13 with | true => some (lin [(0, true), (1, true), (2, true), (3, true), (4, true), (5, true), (6, true), (7, true), (8, true), (9, true), (10, true), (11, true), (12, false), (13, true)]) | false => match Nat.beq i 15 with | true => some (lin [(0, true), (1, true), (2, true), (3, true), (4, true), (5, true), (6, true), (7, true), (8, true), (9, true), (10, true), (11, true), (12, false), (13, true), (14, true)]) | false => match Nat.beq i 18 with | true => some (lin [(0, true), (1, true), (2, true), (3, true), (4, true), (5, true), (6, true), (7, true), (8, true), (9, true), (10, true), (11, true), (12, true), (13, false), (14, true), (15, false)]) | false => match Nat.beq i 21 with | true => some (lin [(0, true), (1, true), (2, true), (3, true), (4, true), (5, true), (6, true), (7, true), (8, true), (9, true), (10, true), (11, true), (12, true), (13, false), (14, true), (15, false)]) | false => none, hints := fun _ => [], cut := fun i => match Nat.beq i 5 with | true => true | false => match Nat.beq i 7 with | true => true | false => match Nat.beq i 15 with | true => true | false => match Nat.beq i 17 with | true => true | false => false }
noncomputable def bsPart : Code := match Tryz.f232.body with | some c => c | none => .skip
theorem ofsPart {args : List AV} {hs : List Vm.Obj} {K : AV → List Vm.Obj → Prop} (hp : Nat.beq gsPart.np hs.length = true) (ha : Nat.ble args.length 168 = true) (hq : initQ hs args fun σ => codeQ Tryz.prog gsPart bsPart σ (retQ Tryz.prog gsPart Tryz.f232.results.toList K)) : ACall Tryz.prog 232 args hs K :=
  ACall.of_code (Γ := gsPart) Tryz.func232 (by kernel_rfl) (by kernel_rfl) (by kernel_rfl) (by kernel_rfl) (Nat.eq_of_beq_eq_true hp) ha hq
/-- slices.partitionEqualOrdered[uint64] -/
noncomputable def gsPeq : Ctx := { N := 84, np := 1, own := fun _ => false, plan := fun i => match Nat.beq i 1 with | true => some (lin [(0, true), (1, true), (2, true), (3, true), (4, true), (5, true), (6, true), (7, true), (8, true), (9, true), (10, true), (11, true), (12, true), (13, false), (14, true), (15, false)]) | false => match Nat.beq i 3 with | true => some (lin [(0, true), (1, true), (2, true), (3, true), (4, true), (5, true), (6, true), (7, true), (8, true), (9, true), (10, true), (11, true), (12, false), (13, true), (14, true)]) | false => match Nat.beq i 5 with | true => some (lin [(0, true), (1, true), (2, true), (3, true), (4, true), (5, true), (6, true), (7, true), (8, true), (9, true), (10, true), (11, true), (12, false), (13, true)]) | false => match Nat.beq i 8 with | true => some (lin [(0, true), (1, true), (2, true), (3, true), (4, true), (5, true), (6, true), (7, true), (8, true), (9, true), (10, true), (11, true), (12, true), (13, false), (14, true), (15, false)]) | false => none, hints := fun _ => [], cut := fun i => match Nat.beq i 5 with | true => true | false => match Nat.beq i 7 with | true => true | false => false }
noncomputable def bsPeq : Code := match Tryz.f231.body with | some c => c | none => .skip
theorem ofsPeq {args : List AV} {hs : List Vm.Obj} {K : AV → List Vm.Obj → Prop} (hp : Nat.beq gsPeq.np hs.length = true) (ha : Nat.ble args.length 84 = true) (hq : initQ hs args fun σ => codeQ Tryz.prog gsPeq bsPeq σ (retQ Tryz.prog gsPeq Tryz.f231.results.toList K)) : ACall Tryz.prog 231 args hs K :=
  ACall.of_code (Γ := gsPeq) Tryz.func231 (by kernel_rfl) (by kernel_rfl) (by kernel_rfl) (by kernel_rfl) (Nat.eq_of_beq_eq_true hp) ha hq
/-- slices.partialInsertionSortOrdered[uint64] -/
noncomputable def gsPins : Ctx := { N := 133, np := 1, own := fun _ => false, plan := fun i => match Nat.beq i 5 with | true => some (lin [(0, true), (1, true), (2, true), (3, true), (4, true), (5, true), (6, true), (7, true), (8, true), (9, true), (10, true), (11, true), (12, true), (13, false), (14, true), (15, true)]) | false => match Nat.beq i 11 with | true => some (lin [(0, true), (1, true), (2, true), (3, true), (4, true), (5, true), (6, true), (7, true), (8, true), (9, true), (10, true), (11, true), (12, true), (13, true), (14, true), (15, false), (16, true), (17, false)]) | false => match Nat.beq i 16 with | true => some (lin [(0, true), (1, true), (2, true), (3, true), (4, true), (5, true), (6, true), (7, true), (8, true), (9, false), (10, true)]) | false => match Nat.beq i 17 with | true => some (lin [(0, true), (1, true), (2, true), (3, true), (4, true), (5, true), (6, true), (7, true), (8, true), (9, true), (10, true), (11, true), (12, true), (13, true), (14, true), (15, false), (16, true), (17, false)]) | false => match Nat.beq i 22 with | true => some (lin [(0, true), (1, true), (2, true), (3, true), (4, true), (5, true), (6, true), (7, true), (8, true), (9, false), (10, true)]) | false => match Nat.beq i 23 with | true => some (lin [(0, true), (1, true), (2, true), (3, true), (4, true), (5, true), (6, true), (7, true), (8, true), (9, true), (10, true), (11, true), (12, true), (13, true), (14, true), (15, false), (16, true), (17, false)]) | false => none, hints := fun _ => [], cut := fun i => match Nat.beq i 7 with | true => true | false => match Nat.beq i 18 with | true => true | false => false }
noncomputable def bsPins : Code := match Tryz.f229.body with | some c => c | none => .skip
theorem ofsPins {args : List AV} {hs : List Vm.Obj} {K : AV → List Vm.Obj → Prop} (hp : Nat.beq gsPins.np hs.length = true) (ha : Nat.ble args.length 133 = true) (hq : initQ hs args fun σ => codeQ Tryz.prog gsPins bsPins σ (retQ Tryz.prog gsPins Tryz.f229.results.toList K)) : ACall Tryz.prog 229 args hs K :=
  ACall.of_code (Γ := gsPins) Tryz.func229 (by kernel_rfl) (by kernel_rfl) (by kernel_rfl) (by kernel_rfl) (Nat.eq_of_beq_eq_true hp) ha hq
/-- slices.order2Ordered[uint64] -/
noncomputable def gsOrd2 : Ctx := { N := 28, np := 2, own := fun _ => false, plan := fun i => match Nat.beq i 1 with | true => some (lin [(0, true), (1, true), (2, true), (3, true), (4, true), (5, true), (6, true), (7, true), (8, false)]) | false => none, hints := fun _ => [], cut := fun _ => false }
noncomputable def bsOrd2 : Code := match Tryz.f241.body with | some c => c | none => .skip
theorem ofsOrd2 {args : List AV} {hs : List Vm.Obj} {K : AV → List Vm.Obj → Prop} (hp : Nat.beq gsOrd2.np hs.length = true) (ha : Nat.ble args.length 28 = true) (hq : initQ hs args fun σ => codeQ Tryz.prog gsOrd2 bsOrd2 σ (retQ Tryz.prog gsOrd2 Tryz.f241.results.toList K)) : ACall Tryz.prog 241 args hs K :=
  ACall.of_code (Γ := gsOrd2) Tryz.func241 (by kernel_rfl) (by kernel_rfl) (by kernel_rfl) (by kernel_rfl) (Nat.eq_of_beq_eq_true hp) ha hq
/-- slices.medianOrdered[uint64] -/
noncomputable def gsMed : Ctx := { N := 36, np := 2, own := fun i => match Nat.beq i 241 with | true => true | false => false, plan := fun _ => none, hints := fun _ => [], cut := fun _ => false }
noncomputable def bsMed : Code := match Tryz.f239.body with | some c => c | none => .skip
theorem ofsMed {args : List AV} {hs : List Vm.Obj} {K : AV → List Vm.Obj → Prop} (hp : Nat.beq gsMed.np hs.length = true) (ha : Nat.ble args.length 36 = true) (hq : initQ hs args fun σ => codeQ Tryz.prog gsMed bsMed σ (retQ Tryz.prog gsMed Tryz.f239.results.toList K)) : ACall Tryz.prog 239 args hs K :=
  ACall.of_code (Γ := gsMed) Tryz.func239 (by kernel_rfl) (by kernel_rfl) (by kernel_rfl) (by kernel_rfl) (Nat.eq_of_beq_eq_true hp) ha hq
/-- slices.medianAdjacentOrdered[uint64] -/
noncomputable def gsMedA : Ctx := { N := 15, np := 2, own := fun i => match Nat.beq i 239 with | true => true | false => false, plan := fun _ => none, hints := fun _ => [], cut := fun _ => false }
noncomputable def bsMedA : Code := match Tryz.f238.body with | some c => c | none => .skip
theorem ofsMedA {args : List AV} {hs : List Vm.Obj} {K : AV → List Vm.Obj → Prop} (hp : Nat.beq gsMedA.np hs.length = true) (ha : Nat.ble args.length 15 = true) (hq : initQ hs args fun σ => codeQ Tryz.prog gsMedA bsMedA σ (retQ Tryz.prog gsMedA Tryz.f238.results.toList K)) : ACall Tryz.prog 238 args hs K :=
  ACall.of_code (Γ := gsMedA) Tryz.func238 (by kernel_rfl) (by kernel_rfl) (by kernel_rfl) (by kernel_rfl) (Nat.eq_of_beq_eq_true hp) ha hq
/-- slices.choosePivotOrdered[uint64] -/
noncomputable def gsPiv : Ctx := { N := 57, np := 1, own := fun i => match Nat.beq i 239 with | true => true | false => match Nat.beq i 238 with | true => true | false => false, plan := fun _ => none, hints := fun _ => [], cut := fun _ => false }
noncomputable def bsPiv : Code := match Tryz.f227.body with | some c => c | none => .skip
theorem ofsPiv {args : List AV} {hs : List Vm.Obj} {K : AV → List Vm.Obj → Prop} (hp : Nat.beq gsPiv.np hs.length = true) (ha : Nat.ble args.length 57 = true) (hq : initQ hs args fun σ => codeQ Tryz.prog gsPiv bsPiv σ (retQ Tryz.prog gsPiv Tryz.f227.results.toList K)) : ACall Tryz.prog 227 args hs K :=
  ACall.of_code (Γ := gsPiv) Tryz.func227 (by kernel_rfl) (by kernel_rfl) (by kernel_rfl) (by kernel_rfl) (Nat.eq_of_beq_eq_true hp) ha hq
/-- math/bits.Len64 -/
noncomputable def gsLen64 : Ctx := { N := 25, np := 0, own := fun _ => false, plan := fun _ => none, hints := fun _ => [], cut := fun _ => false }
noncomputable def bsLen64 : Code := match Tryz.f234.body with | some c => c | none => .skip
theorem ofsLen64 {args : List AV} {hs : List Vm.Obj} {K : AV → List Vm.Obj → Prop} (hp : Nat.beq gsLen64.np hs.length = true) (ha : Nat.ble args.length 25 = true) (hq : initQ hs args fun σ => codeQ Tryz.prog gsLen64 bsLen64 σ (retQ Tryz.prog gsLen64 Tryz.f234.results.toList K)) : ACall Tryz.prog 234 args hs K :=
  ACall.of_code (Γ := gsLen64) Tryz.func234 (by kernel_rfl) (by kernel_rfl) (by kernel_rfl) (by kernel_rfl) (Nat.eq_of_beq_eq_true hp) ha hq
/-- math/bits.Len -/
noncomputable def gsLen : Ctx := { N := 8, np := 0, own := fun _ => false, plan := fun _ => none, hints := fun _ => [], cut := fun _ => false }
noncomputable def bsLen : Code := match Tryz.f222.body with | some c => c | none => .skip
theorem ofsLen {args : List AV} {hs : List Vm.Obj} {K : AV → List Vm.Obj → Prop} (hp : Nat.beq gsLen.np hs.length = true) (ha : Nat.ble args.length 8 = true) (hq : initQ hs args fun σ => codeQ Tryz.prog gsLen bsLen σ (retQ Tryz.prog gsLen Tryz.f222.results.toList K)) : ACall Tryz.prog 222 args hs K :=
  ACall.of_code (Γ := gsLen) Tryz.func222 (by kernel_rfl) (by kernel_rfl) (by kernel_rfl) (by kernel_rfl) (Nat.eq_of_beq_eq_true hp) ha hq
/-- slices.nextPowerOfTwo -/
noncomputable def gsPow2 : Ctx := { N := 7, np := 0, own := fun _ => false, plan := fun _ => none, hints := fun _ => [], cut := fun _ => false }
noncomputable def bsPow2 : Code := match Tryz.f236.body with | some c => c | none => .skip
theorem ofsPow2 {args : List AV} {hs : List Vm.Obj} {K : AV → List Vm.Obj → Prop} (hp : Nat.beq gsPow2.np hs.length = true) (ha : Nat.ble args.length 7 = true) (hq : initQ hs args fun σ => codeQ Tryz.prog gsPow2 bsPow2 σ (retQ Tryz.prog gsPow2 Tryz.f236.results.toList K)) : ACall Tryz.prog 236 args hs K :=
  ACall.of_code (Γ := gsPow2) Tryz.func236 (by kernel_rfl) (by kernel_rfl) (by kernel_rfl) (by kernel_rfl) (Nat.eq_of_beq_eq_true hp) ha hq
/-- (*slices.xorshift).Next -/
noncomputable def gsNext : Ctx := { N := 33, np := 1, own := fun _ => false, plan := fun i => match Nat.beq i 1 with | true => some (lin [(0, true), (1, true), (2, true), (3, true), (4, true), (5, true), (6, true), (7, true), (8, true), (9, false)]) | false => match Nat.beq i 2 with | true => some (lin [(0, true), (1, true), (2, true), (3, true), (4, true), (5, true), (6, true), (7, true), (8, true), (9, false)]) | false => match Nat.beq i 3 with | true => some (lin [(0, true), (1, true), (2, true), (3, true), (4, true), (5, true), (6, true), (7, true), (8, true), (9, false)]) | false => none, hints := fun _ => [], cut := fun _ => false }
noncomputable def bsNext : Code := match Tryz.f237.body with | some c => c | none => .skip
theorem ofsNext {args : List AV} {hs : List Vm.Obj} {K : AV → List Vm.Obj → Prop} (hp : Nat.beq gsNext.np hs.length = true) (ha : Nat.ble args.length 33 = true) (hq : initQ hs args fun σ => codeQ Tryz.prog gsNext bsNext σ (retQ Tryz.prog gsNext Tryz.f237.results.toList K)) : ACall Tryz.prog 237 args hs K :=
  ACall.of_code (Γ := gsNext) Tryz.func237 (by kernel_rfl) (by kernel_rfl) (by kernel_rfl) (by kernel_rfl) (Nat.eq_of_beq_eq_true hp) ha hq
/-- slices.breakPatternsOrdered[uint64] -/
noncomputable def gsBrk : Ctx := { N := 65, np := 1, own := fun i => match Nat.beq i 237 with | true => true | false => false, plan := fun i => match Nat.beq i 10 with | true => some (lin [(0, true), (1, true), (2, true), (3, true), (4, true), (5, true), (6, true), (7, true), (8, true), (9, true), (10, true), (11, true), (12, true), (13, true), (14, true), (15, true), (16, true), (17, false), (18, true), (19, false)]) | false => none, hints := fun _ => [], cut := fun _ => false }
noncomputable def bsBrk : Code := match Tryz.f226.body with | some c => c | none => .skip
theorem ofsBrk {args : List AV} {hs : List Vm.Obj} {K : AV → List Vm.Obj → Prop} (hp : Nat.beq gsBrk.np hs.length = true) (ha : Nat.ble args.length 65 = true) (hq : initQ hs args fun σ => codeQ Tryz.prog gsBrk bsBrk σ (retQ Tryz.prog gsBrk Tryz.f226.results.toList K)) : ACall Tryz.prog 226 args hs K :=
  ACall.of_code (Γ := gsBrk) Tryz.func226 (by kernel_rfl) (by kernel_rfl) (by kernel_rfl) (by kernel_rfl) (Nat.eq_of_beq_eq_true hp) ha hq
/-- slices.pdqsortOrdered[uint64] -/
noncomputable def gsPdq : Ctx := { N := 134, np := 1, own := fun i => match Nat.beq i 224 with | true => true | false => match Nat.beq i 225 with | true => true | false => match Nat.beq i 226 with | true => true | false => match Nat.beq i 227 with | true => true | false => match Nat.beq i 228 with | true => true | false => match Nat.beq i 229 with | true => true | false => match Nat.beq i 231 with | true => true | false => match Nat.beq i 232 with | true => true | false => match Nat.beq i 221 with | true => true | false => false, plan := fun i => match Nat.beq i 17 with | true => some (lin [(0, true), (1, true), (2, true), (3, true), (4, true), (5, true), (6, true), (7, true), (8, true), (9, true), (10, true), (11, true), (12, false), (13, true), (14, true)]) | false => none, hints := fun _ => [], cut := fun i => match Nat.beq i 10 with | true => true | false => match Nat.beq i 15 with | true => true | false => match Nat.beq i 17 with | true => true | false => false }
noncomputable def bsPdq : Code := match Tryz.f221.body with | some c => c | none => .skip
theorem ofsPdq {args : List AV} {hs : List Vm.Obj} {K : AV → List Vm.Obj → Prop} (hp : Nat.beq gsPdq.np hs.length = true) (ha : Nat.ble args.length 134 = true) (hq : initQ hs args fun σ => codeQ Tryz.prog gsPdq bsPdq σ (retQ Tryz.prog gsPdq Tryz.f221.results.toList K)) : ACall Tryz.prog 221 args hs K :=
  ACall.of_code (Γ := gsPdq) Tryz.func221 (by kernel_rfl) (by kernel_rfl) (by kernel_rfl) (by kernel_rfl) (Nat.eq_of_beq_eq_true hp) ha hq
/-- slices.Sort[[]uint64,uint64] -/
noncomputable def gsSort : Ctx := { N := 11, np := 1, own := fun i => match Nat.beq i 221 with | true => true | false => false, plan := fun _ => none, hints := fun _ => [], cut := fun _ => false }
noncomputable def bsSort : Code := match Tryz.f214.body with | some c => c | none => .skip
theorem ofsSort {args : List AV} {hs : List Vm.Obj} {K : AV → List Vm.Obj → Prop} (hp : Nat.beq gsSort.np hs.length = true) (ha : Nat.ble args.length 11 = true) (hq : initQ hs args fun σ => codeQ Tryz.prog gsSort bsSort σ (retQ Tryz.prog gsSort Tryz.f214.results.toList K)) : ACall Tryz.prog 214 args hs K :=
  ACall.of_code (Γ := gsSort) Tryz.func214 (by kernel_rfl) (by kernel_rfl) (by kernel_rfl) (by kernel_rfl) (Nat.eq_of_beq_eq_true hp) ha hq
/-- slices.Compact[[]uint64,uint64] -/
noncomputable def gsComp : Ctx := { N := 61, np := 1, own := fun _ => false, plan := fun i => match Nat.beq i 6 with | true => some (lin [(0, true), (1, true), (2, true), (3, true), (4, true), (5, true), (6, true), (7, true), (8, true), (9, true)]) | false => match Nat.beq i 11 with | true => some (lin [(0, true), (1, true), (2, true), (3, true), (4, true), (5, true), (6, true), (7, true), (8, true), (9, true)]) | false => none, hints := fun _ => [], cut := fun _ => false, res := true }
noncomputable def bsComp : Code := match Tryz.f215.body with | some c => c | none => .skip
theorem ofsComp {args : List AV} {hs : List Vm.Obj} {K : AV → List Vm.Obj → Prop} (hp : Nat.beq gsComp.np hs.length = true) (ha : Nat.ble args.length 61 = true) (hq : initQ hs args fun σ => codeQ Tryz.prog gsComp bsComp σ (retQ Tryz.prog gsComp Tryz.f215.results.toList K)) : ACall Tryz.prog 215 args hs K :=
  ACall.of_code (Γ := gsComp) Tryz.func215 (by kernel_rfl) (by kernel_rfl) (by kernel_rfl) (by kernel_rfl) (Nat.eq_of_beq_eq_true hp) ha hq

end Go.Proofs.YtokmdghjgegclaaGreatDoor

set_option linter.unusedVariables false
set_option linter.unusedSimpArgs false
set_option maxRecDepth 20000
namespace Go.Proofs.YtokmdghjgegclaaGreatDoor
open Go Go.Vm

noncomputable abbrev encZ (z : Int) : AV := .v (.int .u64 z)
noncomputable abbrev rowZ (d : Array Int) : Vm.Obj := .arr 1 (d.toList.map encZ)
theorem z_get {d : Array Int} {i : Nat} (h : i < d.size) : d.toList[i]? = some d[i]! := by
  rw [Array.getElem?_toList, Array.getElem?_eq_getElem h, getElem!_pos d i h]
theorem ix_z {d : Array Int} {i : Nat} {K : AV → Prop} (h : i < d.size) (hk : K (encZ d[i]!)) : Ix (d.toList.map encZ) (0 + i) K := by
  rw [Nat.zero_add]
  exact ix_map (z_get h) hk
theorem swp_z {d : Array Int} {i j : Nat} : ((d.toList.map encZ).set i (encZ d[j]!)).set j (encZ d[i]!) = (Sort.swp d i j).toList.map encZ := by
  rw [← List.map_set, ← List.map_set]
  simp [Sort.swp]
theorem ix_zs {d : Array Int} {i j : Nat} {x : AV} {K : AV → Prop} (hij : i ≠ j) (h : j < d.size) (hk : K (encZ d[j]!)) : Ix ((d.toList.map encZ).set (0 + i) x) (0 + j) K := by
  rw [Nat.zero_add, Nat.zero_add]
  exact Ix.intro (by rw [List.getElem?_set_ne hij, List.getElem?_map, z_get h]; rfl) hk
theorem ix_zw {d : Array Int} {i j : Nat} {y : Int} {K : AV → Prop} (h : j < d.size) (hk : ∀ z, K (encZ z)) : Ix ((d.toList.map encZ).set (0 + i) (encZ y)) (0 + j) K := by
  rw [Nat.zero_add, Nat.zero_add]
  rcases Nat.decEq i j with hij | rfl
  · exact Ix.intro (by rw [List.getElem?_set_ne hij, List.getElem?_map, z_get h]; rfl) (hk _)
  · exact Ix.intro (by rw [List.getElem?_set_self (by simpa using h)]) (hk _)
theorem swp0 {d : Array Int} {i j : Nat} : ((d.toList.map encZ).set (0 + i) (encZ d[j]!)).set (0 + j) (encZ d[i]!) = (Sort.swp d i j).toList.map encZ := by rw [Nat.zero_add, Nat.zero_add]; exact swp_z
theorem swp_size {d : Array Int} {i j : Nat} : (Sort.swp d i j).size = d.size := by simp [Sort.swp]
/-- cmp.isNaN -/
theorem csNaN (x : Int) {K : AV → List Vm.Obj → Prop} (hK : K (.sb false) []) : ACall Tryz.prog 240 [encZ x] [] K := by
  refine ofsNaN rfl rfl ?_
  (all_goals (repeat' ((conv => whnf); first | ((with_reducible refine sl_full ?_ ?_);exact gA)|((with_reducible refine Ob.intro ?_ ?_);exact gC)|(with_reducible first|refine br_lt ?_|refine br_lf ?_)|((with_reducible refine br_pos ?_ ?_);exact gB)|((with_reducible refine br_neg ?_ ?_);exact gB)|(with_reducible(refine br_t ?_ ?_;assumption))|(with_reducible(refine br_f ?_ ?_;assumption))|(with_reducible first|refine br_dec (fun h=>?_) fun h=>?_|refine br_not ?_|refine br_b (fun h=>?_) fun h=>?_)|((with_reducible first|refine wr_i64 rfl ?_ ?_ ?_|refine wr_u64 rfl ?_ ?_ ?_|refine wr_u32 rfl ?_ ?_ ?_);exact gB;exact gB)|(with_reducible first|refine And.intro ?_ ?_|refine True.intro|refine Stp.go ?_)))); (all_goals (conv => whnf))
  have e : (!decide (x = x)) = false := by simp
  unfold one?
  rw [e]
  exact hK
/-- cmp.Less -/
theorem csLess (x y : Int) {K : AV → List Vm.Obj → Prop} (hK : K (.sb (Sort.ltInt x y)) []) : ACall Tryz.prog 230 [encZ x, encZ y] [] K := by
  refine ACall.bool (ofsLess rfl rfl ?_)
  (all_goals (repeat' ((conv => whnf); first | (with_reducible refine csNaN _ ?_)|((with_reducible refine sl_full ?_ ?_);exact gA)|((with_reducible refine Ob.intro ?_ ?_);exact gC)|(with_reducible first|refine br_lt ?_|refine br_lf ?_)|((with_reducible refine br_pos ?_ ?_);exact gB)|((with_reducible refine br_neg ?_ ?_);exact gB)|(with_reducible(refine br_t ?_ ?_;assumption))|(with_reducible(refine br_f ?_ ?_;assumption))|(with_reducible first|refine br_dec (fun h=>?_) fun h=>?_|refine br_not ?_|refine br_b (fun h=>?_) fun h=>?_)|((with_reducible first|refine wr_i64 rfl ?_ ?_ ?_|refine wr_u64 rfl ?_ ?_ ?_|refine wr_u32 rfl ?_ ?_ ?_);exact gB;exact gB)|(with_reducible first|refine And.intro ?_ ?_|refine True.intro|refine Stp.go ?_)))); (all_goals (conv => whnf))
  exact fin_s hK rfl
/-- slices.insertionSortOrdered -/
theorem csIns (d : Array Int) (a b : Nat) (hab : a ≤ b) (hb : b ≤ d.size) (hsz : d.size < 1000000000000) {K : AV → List Vm.Obj → Prop} (hK : K (.tup []) [rowZ (Sort.insertionSort Sort.ltInt d a b)]) :
    ACall Tryz.prog 224 [.os 0 1 0 d.size, .v (.int .i64 a), .v (.int .i64 b)] [rowZ d] K := by
  refine ofsIns rfl rfl ?_
  (all_goals (repeat' ((conv => whnf); first | ((with_reducible refine sl_full ?_ ?_);exact gA)|((with_reducible refine Ob.intro ?_ ?_);exact gC)|(with_reducible first|refine br_lt ?_|refine br_lf ?_)|((with_reducible refine br_pos ?_ ?_);exact gB)|((with_reducible refine br_neg ?_ ?_);exact gB)|(with_reducible(refine br_t ?_ ?_;assumption))|(with_reducible(refine br_f ?_ ?_;assumption))|(with_reducible first|refine br_dec (fun h=>?_) fun h=>?_|refine br_not ?_|refine br_b (fun h=>?_) fun h=>?_)|((with_reducible first|refine wr_i64 rfl ?_ ?_ ?_|refine wr_u64 rfl ?_ ?_ ?_|refine wr_u32 rfl ?_ ?_ ?_);exact gB;exact gB)|(with_reducible first|refine And.intro ?_ ?_|refine True.intro|refine Stp.go ?_)))); (all_goals (conv => whnf))
  refine Lp.intro (Nat × Array Int) (fun g => ⟨1, [(0, rowZ g.2)], [(0, .os 0 1 0 d.size), (1, .v (.int .i64 a)), (2, .v (.int .i64 b)), (6, .v (.int .i64 g.1))]⟩)
    (fun g => g.2.size = d.size ∧ a + 1 ≤ g.1 ∧ g.1 ≤ d.size + 1 ∧ Sort.insOuter Sort.ltInt a b g.1 g.2 = Sort.insertionSort Sort.ltInt d a b) (fun g => b - g.1) (a + 1, d) ⟨rfl, Nat.le_refl _, by omega, rfl⟩ ?_ ?_
  · dsimp only
    rw [Int.natCast_add, Int.natCast_one]
    (refine Le.auto ?_; repeat' ((conv => whnf); first | with_reducible refine And.intro ?_ ?_ | with_reducible exact True.intro | rfl))
  rintro ⟨i, e⟩ ⟨he, hi1, hi2, ht⟩
  simp only at he hi1 hi2 ht ⊢
  rw [Sort.insOuter] at ht
  rcases Nat.lt_or_ge i b with hib | hib
  · rw [if_pos hib] at ht
    (all_goals (repeat' ((conv => whnf); first | ((with_reducible refine sl_full ?_ ?_);exact gA)|((with_reducible refine Ob.intro ?_ ?_);exact gC)|(with_reducible first|refine br_lt ?_|refine br_lf ?_)|((with_reducible refine br_pos ?_ ?_);exact gB)|((with_reducible refine br_neg ?_ ?_);exact gB)|(with_reducible(refine br_t ?_ ?_;assumption))|(with_reducible(refine br_f ?_ ?_;assumption))|(with_reducible first|refine br_dec (fun h=>?_) fun h=>?_|refine br_not ?_|refine br_b (fun h=>?_) fun h=>?_)|((with_reducible first|refine wr_i64 rfl ?_ ?_ ?_|refine wr_u64 rfl ?_ ?_ ?_|refine wr_u32 rfl ?_ ?_ ?_);exact gB;exact gB)|(with_reducible first|refine And.intro ?_ ?_|refine True.intro|refine Stp.go ?_)))); (all_goals (conv => whnf))
    refine Lp.intro (Nat × Array Int) (fun g => ⟨1, [(0, rowZ g.2)], [(0, .os 0 1 0 d.size), (1, .v (.int .i64 a)), (2, .v (.int .i64 b)), (6, .v (.int .i64 i)), (7, .v (.int .i64 g.1))]⟩)
      (fun g => g.2.size = d.size ∧ a ≤ g.1 ∧ g.1 ≤ i ∧ Sort.insInner Sort.ltInt a g.1 g.2 = Sort.insInner Sort.ltInt a i e) (fun g => g.1) (i, e) ⟨he, by omega, Nat.le_refl _, rfl⟩ ?_ ?_
    · (refine Le.auto ?_; repeat' ((conv => whnf); first | with_reducible refine And.intro ?_ ?_ | with_reducible exact True.intro | rfl))
    rintro ⟨j, f⟩ ⟨hf, hj1, hj2, hg⟩
    simp only at hf hj1 hj2 hg ⊢
    have n1 : j < d.size := by omega
    have n1' : j < f.size := by omega
    rcases Nat.lt_or_ge a j with haj | haj
    · obtain ⟨m, rfl⟩ : ∃ m, j = m + 1 := ⟨j - 1, by omega⟩
      have n2 : m < d.size := by omega
      have n2' : m < f.size := by omega
      have hm : ((m + 1 : Nat) : Int) - 1 = (m : Nat) := by omega
      (all_goals (repeat' ((conv => whnf); first | (with_reducible first|refine csLess _ _ ?_|refine in_nat n1 ?_|refine In.intro m hm n2 ?_|refine ix_z n1' ?_|refine ix_z n2' ?_|refine ix_zs (Nat.succ_ne_self m) n2' ?_)|((with_reducible refine sl_full ?_ ?_);exact gA)|((with_reducible refine Ob.intro ?_ ?_);exact gC)|(with_reducible first|refine br_lt ?_|refine br_lf ?_)|((with_reducible refine br_pos ?_ ?_);exact gB)|((with_reducible refine br_neg ?_ ?_);exact gB)|(with_reducible(refine br_t ?_ ?_;assumption))|(with_reducible(refine br_f ?_ ?_;assumption))|(with_reducible first|refine br_dec (fun h=>?_) fun h=>?_|refine br_not ?_|refine br_b (fun h=>?_) fun h=>?_)|((with_reducible first|refine wr_i64 rfl ?_ ?_ ?_|refine wr_u64 rfl ?_ ?_ ?_|refine wr_u32 rfl ?_ ?_ ?_);exact gB;exact gB)|(with_reducible first|refine And.intro ?_ ?_|refine True.intro|refine Stp.go ?_)))); (all_goals (conv => whnf))
      · refine ⟨(m, Sort.swp f (m + 1) m), ⟨by rw [swp_size, hf], by omega, by omega, ?_⟩, by dsimp only; omega, ?_⟩
        · rw [← hg]
          simp only [Sort.insInner]
          rw [if_pos]
          simp only [Bool.and_eq_true, decide_eq_true_eq]
          exact ⟨haj, h⟩
        · dsimp only
          rw [hm, swp0]
          (refine Le.auto ?_; repeat' ((conv => whnf); first | with_reducible refine And.intro ?_ ?_ | with_reducible exact True.intro | rfl))
      · refine ⟨(i + 1, f), ⟨hf, by omega, by omega, ?_⟩, by dsimp only; omega, ?_⟩
        · rw [← ht, ← hg]
          simp only [Sort.insInner]
          rw [if_neg]
          simp [h]
        · dsimp only
          rw [Int.natCast_add, Int.natCast_one]
          (refine Le.auto ?_; repeat' ((conv => whnf); first | with_reducible refine And.intro ?_ ?_ | with_reducible exact True.intro | rfl))
    · have hja : j = a := by omega
      subst hja
      (all_goals (repeat' ((conv => whnf); first | ((with_reducible refine sl_full ?_ ?_);exact gA)|((with_reducible refine Ob.intro ?_ ?_);exact gC)|(with_reducible first|refine br_lt ?_|refine br_lf ?_)|((with_reducible refine br_pos ?_ ?_);exact gB)|((with_reducible refine br_neg ?_ ?_);exact gB)|(with_reducible(refine br_t ?_ ?_;assumption))|(with_reducible(refine br_f ?_ ?_;assumption))|(with_reducible first|refine br_dec (fun h=>?_) fun h=>?_|refine br_not ?_|refine br_b (fun h=>?_) fun h=>?_)|((with_reducible first|refine wr_i64 rfl ?_ ?_ ?_|refine wr_u64 rfl ?_ ?_ ?_|refine wr_u32 rfl ?_ ?_ ?_);exact gB;exact gB)|(with_reducible first|refine And.intro ?_ ?_|refine True.intro|refine Stp.go ?_)))); (all_goals (conv => whnf))
      refine ⟨(i + 1, f), ⟨hf, by omega, by omega, ?_⟩, by dsimp only; omega, ?_⟩
      · rw [← ht, ← hg]
        cases j with
        | zero => rfl
        | succ j => simp only [Sort.insInner]; rw [if_neg]; simp
      · dsimp only
        rw [Int.natCast_add, Int.natCast_one]
        (refine Le.auto ?_; repeat' ((conv => whnf); first | with_reducible refine And.intro ?_ ?_ | with_reducible exact True.intro | rfl))
  · rw [if_neg (by omega)] at ht
    rw [← ht] at hK
    (all_goals (repeat' ((conv => whnf); first | ((with_reducible refine sl_full ?_ ?_);exact gA)|((with_reducible refine Ob.intro ?_ ?_);exact gC)|(with_reducible first|refine br_lt ?_|refine br_lf ?_)|((with_reducible refine br_pos ?_ ?_);exact gB)|((with_reducible refine br_neg ?_ ?_);exact gB)|(with_reducible(refine br_t ?_ ?_;assumption))|(with_reducible(refine br_f ?_ ?_;assumption))|(with_reducible first|refine br_dec (fun h=>?_) fun h=>?_|refine br_not ?_|refine br_b (fun h=>?_) fun h=>?_)|((with_reducible first|refine wr_i64 rfl ?_ ?_ ?_|refine wr_u64 rfl ?_ ?_ ?_|refine wr_u32 rfl ?_ ?_ ?_);exact gB;exact gB)|(with_reducible first|refine And.intro ?_ ?_|refine True.intro|refine Stp.go ?_)))); (all_goals (conv => whnf))
    exact hK
end Go.Proofs.YtokmdghjgegclaaGreatDoor

set_option linter.unusedVariables false
set_option linter.unusedSimpArgs false
set_option maxRecDepth 20000
namespace Go.Proofs.YtokmdghjgegclaaGreatDoor
open Go Go.Vm

/-- slices.siftDownOrdered -/
theorem csSift (d : Array Int) (lo hi first : Nat) (hlo : lo ≤ d.size) (hb : first + hi ≤ d.size) (hsz : d.size < 1000000000000) {K : AV → List Vm.Obj → Prop} (hK : K (.tup []) [rowZ (Sort.siftDown Sort.ltInt hi first lo d)]) :
    ACall Tryz.prog 235 [.os 0 1 0 d.size, .v (.int .i64 lo), .v (.int .i64 hi), .v (.int .i64 first)] [rowZ d] K := by
  refine ofsSift rfl rfl ?_
  (all_goals (repeat' ((conv => whnf); first | ((with_reducible refine sl_full ?_ ?_);exact gA)|((with_reducible refine Ob.intro ?_ ?_);exact gC)|(with_reducible first|refine br_lt ?_|refine br_lf ?_)|((with_reducible refine br_pos ?_ ?_);exact gB)|((with_reducible refine br_neg ?_ ?_);exact gB)|(with_reducible(refine br_t ?_ ?_;assumption))|(with_reducible(refine br_f ?_ ?_;assumption))|(with_reducible first|refine br_dec (fun h=>?_) fun h=>?_|refine br_not ?_|refine br_b (fun h=>?_) fun h=>?_)|((with_reducible first|refine wr_i64 rfl ?_ ?_ ?_|refine wr_u64 rfl ?_ ?_ ?_|refine wr_u32 rfl ?_ ?_ ?_);exact gB;exact gB)|(with_reducible first|refine And.intro ?_ ?_|refine True.intro|refine Stp.go ?_)))); (all_goals (conv => whnf))
  refine Lp.intro (Nat × Array Int) (fun g => ⟨1, [(0, rowZ g.2)], [(0, .os 0 1 0 d.size), (1, .v (.int .i64 lo)), (2, .v (.int .i64 hi)), (3, .v (.int .i64 first)), (8, .v (.int .i64 g.1))]⟩)
    (fun g => g.2.size = d.size ∧ g.1 ≤ d.size ∧ Sort.siftDown Sort.ltInt hi first g.1 g.2 = Sort.siftDown Sort.ltInt hi first lo d) (fun g => hi - g.1) (lo, d) ⟨rfl, hlo, rfl⟩ ?_ ?_
  · (refine Le.auto ?_; repeat' ((conv => whnf); first | with_reducible refine And.intro ?_ ?_ | with_reducible exact True.intro | rfl))
  rintro ⟨r, e⟩ ⟨he, hr, ht⟩
  simp only at he hr ht ⊢
  rw [Sort.siftDown] at ht
  rcases Nat.lt_or_ge (2 * r + 1) hi with h1 | h1
  · rw [dif_neg (by omega)] at ht
    have a1 : first + (2 * r + 1) < e.size := by omega
    have a0 : first + r < e.size := by omega
    have e1 : first + (2 * r + 1) + 1 = first + (2 * r + 2) := by omega
    rw [e1] at ht
    rcases Nat.lt_or_ge (2 * r + 2) hi with h2 | h2
    · have a2 : first + (2 * r + 2) < e.size := by omega
      rw [show decide (2 * r + 1 + 1 < hi) = true from decide_eq_true (by omega), Bool.true_and, dif_pos h2] at ht
      (all_goals (repeat' ((conv => whnf); first | (with_reducible refine csLess _ _ ?_)|(refine In.intro (first + (2 * r + 1)) (by omega) (by omega) ?_)|(refine In.intro (first + (2 * r + 2)) (by omega) (by omega) ?_)|(refine In.intro (first + r) (by omega) (by omega) ?_)|(with_reducible first|refine ix_z a0 ?_|refine ix_z a1 ?_|refine ix_z a2 ?_)|(refine ix_zs (by omega) a1 ?_)|(refine ix_zs (by omega) a2 ?_)|((with_reducible refine sl_full ?_ ?_);exact gA)|((with_reducible refine Ob.intro ?_ ?_);exact gC)|(with_reducible first|refine br_lt ?_|refine br_lf ?_)|((with_reducible refine br_pos ?_ ?_);exact gB)|((with_reducible refine br_neg ?_ ?_);exact gB)|(with_reducible(refine br_t ?_ ?_;assumption))|(with_reducible(refine br_f ?_ ?_;assumption))|(with_reducible first|refine br_dec (fun h=>?_) fun h=>?_|refine br_not ?_|refine br_b (fun h=>?_) fun h=>?_)|((with_reducible first|refine wr_i64 rfl ?_ ?_ ?_|refine wr_u64 rfl ?_ ?_ ?_|refine wr_u32 rfl ?_ ?_ ?_);exact gB;exact gB)|(with_reducible first|refine And.intro ?_ ?_|refine True.intro|refine Stp.go ?_)))); (all_goals (conv => whnf))
      · rename_i hh
        simp only [hh, h, Bool.not_true, Bool.not_false, Bool.false_eq_true, if_true, if_false, reduceIte] at ht
        refine ⟨(2 * r + 2, Sort.swp e (first + r) (first + (2 * r + 2))), ⟨by rw [swp_size, he], by dsimp only; omega, ht⟩, by dsimp only; omega, ?_⟩
        dsimp only
        rw [swp0, show ((2 * r + 2 : Nat) : Int) = 2 * (r : Int) + 1 + 1 by omega]
        (refine Le.auto ?_; repeat' ((conv => whnf); first | with_reducible refine And.intro ?_ ?_ | with_reducible exact True.intro | rfl))
      · rename_i hh
        simp only [hh, h, Bool.not_true, Bool.not_false, Bool.false_eq_true, if_true, if_false, reduceIte] at ht
        rw [ht]
        exact hK
      · rename_i hh
        simp only [hh, h, Bool.not_true, Bool.not_false, Bool.false_eq_true, if_true, if_false, reduceIte] at ht
        refine ⟨(2 * r + 1, Sort.swp e (first + r) (first + (2 * r + 1))), ⟨by rw [swp_size, he], by dsimp only; omega, ht⟩, by dsimp only; omega, ?_⟩
        dsimp only
        rw [swp0, show ((2 * r + 1 : Nat) : Int) = 2 * (r : Int) + 1 by omega]
        (refine Le.auto ?_; repeat' ((conv => whnf); first | with_reducible refine And.intro ?_ ?_ | with_reducible exact True.intro | rfl))
      · rename_i hh
        simp only [hh, h, Bool.not_true, Bool.not_false, Bool.false_eq_true, if_true, if_false, reduceIte] at ht
        rw [ht]
        exact hK
    · rw [show decide (2 * r + 1 + 1 < hi) = false from decide_eq_false (by omega), Bool.false_and] at ht
      (all_goals (repeat' ((conv => whnf); first | (with_reducible refine csLess _ _ ?_)|(refine In.intro (first + (2 * r + 1)) (by omega) (by omega) ?_)|(refine In.intro (first + r) (by omega) (by omega) ?_)|(with_reducible first|refine ix_z a0 ?_|refine ix_z a1 ?_)|(refine ix_zs (by omega) a1 ?_)|((with_reducible refine sl_full ?_ ?_);exact gA)|((with_reducible refine Ob.intro ?_ ?_);exact gC)|(with_reducible first|refine br_lt ?_|refine br_lf ?_)|((with_reducible refine br_pos ?_ ?_);exact gB)|((with_reducible refine br_neg ?_ ?_);exact gB)|(with_reducible(refine br_t ?_ ?_;assumption))|(with_reducible(refine br_f ?_ ?_;assumption))|(with_reducible first|refine br_dec (fun h=>?_) fun h=>?_|refine br_not ?_|refine br_b (fun h=>?_) fun h=>?_)|((with_reducible first|refine wr_i64 rfl ?_ ?_ ?_|refine wr_u64 rfl ?_ ?_ ?_|refine wr_u32 rfl ?_ ?_ ?_);exact gB;exact gB)|(with_reducible first|refine And.intro ?_ ?_|refine True.intro|refine Stp.go ?_)))); (all_goals (conv => whnf))
      · simp only [h, Bool.false_and, Bool.not_true, Bool.not_false, Bool.false_eq_true, if_true, if_false, reduceIte] at ht
        refine ⟨(2 * r + 1, Sort.swp e (first + r) (first + (2 * r + 1))), ⟨by rw [swp_size, he], by dsimp only; omega, ht⟩, by dsimp only; omega, ?_⟩
        dsimp only
        rw [swp0, show ((2 * r + 1 : Nat) : Int) = 2 * (r : Int) + 1 by omega]
        (refine Le.auto ?_; repeat' ((conv => whnf); first | with_reducible refine And.intro ?_ ?_ | with_reducible exact True.intro | rfl))
      · simp only [h, Bool.false_and, Bool.not_true, Bool.not_false, Bool.false_eq_true, if_true, if_false, reduceIte] at ht
        rw [ht]
        exact hK
  · rw [dif_pos h1] at ht
    rw [← ht] at hK
    (all_goals (repeat' ((conv => whnf); first | ((with_reducible refine sl_full ?_ ?_);exact gA)|((with_reducible refine Ob.intro ?_ ?_);exact gC)|(with_reducible first|refine br_lt ?_|refine br_lf ?_)|((with_reducible refine br_pos ?_ ?_);exact gB)|((with_reducible refine br_neg ?_ ?_);exact gB)|(with_reducible(refine br_t ?_ ?_;assumption))|(with_reducible(refine br_f ?_ ?_;assumption))|(with_reducible first|refine br_dec (fun h=>?_) fun h=>?_|refine br_not ?_|refine br_b (fun h=>?_) fun h=>?_)|((with_reducible first|refine wr_i64 rfl ?_ ?_ ?_|refine wr_u64 rfl ?_ ?_ ?_|refine wr_u32 rfl ?_ ?_ ?_);exact gB;exact gB)|(with_reducible first|refine And.intro ?_ ?_|refine True.intro|refine Stp.go ?_)))); (all_goals (conv => whnf))
    exact hK
theorem siftDown_size (lt : Int → Int → Bool) (hi first : Nat) : ∀ (n r : Nat) (e : Array Int), hi - r ≤ n → (Sort.siftDown lt hi first r e).size = e.size := by
  intro n
  induction n with
  | zero => intro r e h; rw [Sort.siftDown, dif_pos (by omega)]
  | succ n ih =>
    intro r e h
    rw [Sort.siftDown]
    split
    · rfl
    · split
      · split
        · rfl
        · split
          · rw [ih _ _ (by omega), swp_size]
          · rfl
      · split
        · rfl
        · rw [ih _ _ (by omega), swp_size]
theorem sift_size {lt : Int → Int → Bool} {hi first r : Nat} {e : Array Int} : (Sort.siftDown lt hi first r e).size = e.size := siftDown_size lt hi first _ r e (Nat.le_refl _)
theorem csSift' {n : Nat} {d : Array Int} (hn : d.size = n) (lo hi first : Nat) (hlo : lo ≤ n) (hb : first + hi ≤ n) (hsz : n < 1000000000000) {K : AV → List Vm.Obj → Prop} (hK : K (.tup []) [rowZ (Sort.siftDown Sort.ltInt hi first lo d)]) :
    ACall Tryz.prog 235 [.os 0 1 0 n, .v (.int .i64 lo), .v (.int .i64 hi), .v (.int .i64 first)] [rowZ d] K := by
  subst hn
  exact csSift d lo hi first hlo hb hsz hK
/-- slices.heapSortOrdered -/
theorem csHeap (d : Array Int) (a b : Nat) (hab : a < b) (hb : b ≤ d.size) (hsz : d.size < 1000000000000) {K : AV → List Vm.Obj → Prop} (hK : K (.tup []) [rowZ (Sort.heapSort Sort.ltInt d a b)]) :
    ACall Tryz.prog 225 [.os 0 1 0 d.size, .v (.int .i64 a), .v (.int .i64 b)] [rowZ d] K := by
  refine ofsHeap rfl rfl ?_
  have hq : ((b : Int) - a - 1).tdiv 2 = (((b - a - 1) / 2 : Nat) : Int) := by rw [Int.tdiv_eq_ediv_of_nonneg (by omega)]; omega
  have hba : (b : Int) - a = ((b - a : Nat) : Int) := by omega
  have hw : ∀ {K : Int → Prop}, K (((b - a - 1) / 2 : Nat) : Int) → Wr .i64 (((b : Int) - a - 1).tdiv 2) K := fun h => wr_i64 hq (by omega) (by omega) h
  (all_goals (repeat' ((conv => whnf); first | (with_reducible refine hw ?_)|((with_reducible refine sl_full ?_ ?_);exact gA)|((with_reducible refine Ob.intro ?_ ?_);exact gC)|(with_reducible first|refine br_lt ?_|refine br_lf ?_)|((with_reducible refine br_pos ?_ ?_);exact gB)|((with_reducible refine br_neg ?_ ?_);exact gB)|(with_reducible(refine br_t ?_ ?_;assumption))|(with_reducible(refine br_f ?_ ?_;assumption))|(with_reducible first|refine br_dec (fun h=>?_) fun h=>?_|refine br_not ?_|refine br_b (fun h=>?_) fun h=>?_)|((with_reducible first|refine wr_i64 rfl ?_ ?_ ?_|refine wr_u64 rfl ?_ ?_ ?_|refine wr_u32 rfl ?_ ?_ ?_);exact gB;exact gB)|(with_reducible first|refine And.intro ?_ ?_|refine True.intro|refine Stp.go ?_)))); (all_goals (conv => whnf))
  refine Lp.intro (Nat × Array Int) (fun g => ⟨1, [(0, rowZ g.2)], [(0, .os 0 1 0 d.size), (1, .v (.int .i64 a)), (2, .v (.int .i64 b)), (6, .v (.int .i64 a)), (7, .v (.int .i64 0)), (8, .v (.int .i64 ((b : Int) - a))), (9, .v (.int .i64 ((g.1 : Int) - 1)))]⟩)
    (fun g => g.2.size = d.size ∧ g.1 ≤ (b - a - 1) / 2 + 1 ∧ Sort.heapBuild Sort.ltInt (b - a) a g.1 g.2 = Sort.heapBuild Sort.ltInt (b - a) a ((b - a - 1) / 2 + 1) d) (fun g => g.1) ((b - a - 1) / 2 + 1, d) ⟨rfl, Nat.le_refl _, rfl⟩ ?_ ?_
  · dsimp only
    rw [show ((((b - a - 1) / 2 + 1 : Nat) : Int) - 1) = (((b - a - 1) / 2 : Nat) : Int) by omega]
    (refine Le.auto ?_; repeat' ((conv => whnf); first | with_reducible refine And.intro ?_ ?_ | with_reducible exact True.intro | rfl))
  rintro ⟨k, e⟩ ⟨he, hk, ht⟩
  simp only at he hk ht ⊢
  rcases k with _ | k
  · simp only [Sort.heapBuild] at ht
    subst ht
    have hs : ∀ {K : AV → List Vm.Obj → Prop} (k : Nat) (e : Array Int), e.size = d.size → k < b - a → K (.tup []) [rowZ (Sort.siftDown Sort.ltInt k a 0 e)] → ACall Tryz.prog 235 [.os 0 1 0 d.size, .v (.int .i64 0), .v (.int .i64 k), .v (.int .i64 a)] [rowZ e] K := fun k e he hk h => csSift' he 0 k a (by omega) (by omega) hsz h
    (all_goals (repeat' ((conv => whnf); first | ((with_reducible refine sl_full ?_ ?_);exact gA)|((with_reducible refine Ob.intro ?_ ?_);exact gC)|(with_reducible first|refine br_lt ?_|refine br_lf ?_)|((with_reducible refine br_pos ?_ ?_);exact gB)|((with_reducible refine br_neg ?_ ?_);exact gB)|(with_reducible(refine br_t ?_ ?_;assumption))|(with_reducible(refine br_f ?_ ?_;assumption))|(with_reducible first|refine br_dec (fun h=>?_) fun h=>?_|refine br_not ?_|refine br_b (fun h=>?_) fun h=>?_)|((with_reducible first|refine wr_i64 rfl ?_ ?_ ?_|refine wr_u64 rfl ?_ ?_ ?_|refine wr_u32 rfl ?_ ?_ ?_);exact gB;exact gB)|(with_reducible first|refine And.intro ?_ ?_|refine True.intro|refine Stp.go ?_)))); (all_goals (conv => whnf))
    refine Lp.intro (Nat × Array Int) (fun g => ⟨1, [(0, rowZ g.2)], [(0, .os 0 1 0 d.size), (1, .v (.int .i64 a)), (2, .v (.int .i64 b)), (6, .v (.int .i64 a)), (7, .v (.int .i64 0)), (8, .v (.int .i64 ((b : Int) - a))), (10, .v (.int .i64 ((g.1 : Int) - 1)))]⟩)
      (fun g => g.2.size = d.size ∧ g.1 ≤ b - a ∧ Sort.heapPop Sort.ltInt a g.1 g.2 = Sort.heapSort Sort.ltInt d a b) (fun g => g.1) (b - a, Sort.heapBuild Sort.ltInt (b - a) a ((b - a - 1) / 2 + 1) d) ⟨he, Nat.le_refl _, rfl⟩ ?_ ?_
    · dsimp only
      rw [← hba]
      (refine Le.auto ?_; repeat' ((conv => whnf); first | with_reducible refine And.intro ?_ ?_ | with_reducible exact True.intro | rfl))
    rintro ⟨k, f⟩ ⟨hf, hk, ht⟩
    simp only at hf hk ht ⊢
    rcases k with _ | k
    · simp only [Sort.heapPop] at ht
      rw [← ht] at hK
      (all_goals (repeat' ((conv => whnf); first | ((with_reducible refine sl_full ?_ ?_);exact gA)|((with_reducible refine Ob.intro ?_ ?_);exact gC)|(with_reducible first|refine br_lt ?_|refine br_lf ?_)|((with_reducible refine br_pos ?_ ?_);exact gB)|((with_reducible refine br_neg ?_ ?_);exact gB)|(with_reducible(refine br_t ?_ ?_;assumption))|(with_reducible(refine br_f ?_ ?_;assumption))|(with_reducible first|refine br_dec (fun h=>?_) fun h=>?_|refine br_not ?_|refine br_b (fun h=>?_) fun h=>?_)|((with_reducible first|refine wr_i64 rfl ?_ ?_ ?_|refine wr_u64 rfl ?_ ?_ ?_|refine wr_u32 rfl ?_ ?_ ?_);exact gB;exact gB)|(with_reducible first|refine And.intro ?_ ?_|refine True.intro|refine Stp.go ?_)))); (all_goals (conv => whnf))
      exact hK
    · have a0 : a < f.size := by omega
      have a1 : a + k < f.size := by omega
      have n0 : a < d.size := by omega
      have hik : ((k + 1 : Nat) : Int) - 1 = (k : Nat) := by omega
      rw [hik]
      (all_goals (repeat' ((conv => whnf); first | (with_reducible refine in_nat n0 ?_)|(refine In.intro (a + k) (by omega) (by omega) ?_)|(with_reducible first|refine ix_z a0 ?_|refine ix_z a1 ?_)|(refine ix_zw a1 fun z => ?_)|(rw [swp0])|(with_reducible refine hs k _ (swp_size.trans hf) (by omega) ?_)|((with_reducible refine sl_full ?_ ?_);exact gA)|((with_reducible refine Ob.intro ?_ ?_);exact gC)|(with_reducible first|refine br_lt ?_|refine br_lf ?_)|((with_reducible refine br_pos ?_ ?_);exact gB)|((with_reducible refine br_neg ?_ ?_);exact gB)|(with_reducible(refine br_t ?_ ?_;assumption))|(with_reducible(refine br_f ?_ ?_;assumption))|(with_reducible first|refine br_dec (fun h=>?_) fun h=>?_|refine br_not ?_|refine br_b (fun h=>?_) fun h=>?_)|((with_reducible first|refine wr_i64 rfl ?_ ?_ ?_|refine wr_u64 rfl ?_ ?_ ?_|refine wr_u32 rfl ?_ ?_ ?_);exact gB;exact gB)|(with_reducible first|refine And.intro ?_ ?_|refine True.intro|refine Stp.go ?_)))); (all_goals (conv => whnf))
      refine ⟨(k, Sort.siftDown Sort.ltInt k a 0 (Sort.swp f a (a + k))), ⟨by rw [sift_size, swp_size, hf], by dsimp only; omega, ?_⟩, by dsimp only; omega, ?_⟩
      · rw [← ht]; rfl
      · (refine Le.auto ?_; repeat' ((conv => whnf); first | with_reducible refine And.intro ?_ ?_ | with_reducible exact True.intro | rfl))
  · have hik : ((k + 1 : Nat) : Int) - 1 = (k : Nat) := by omega
    rw [hik]
    have hs : ∀ {K : AV → List Vm.Obj → Prop}, K (.tup []) [rowZ (Sort.siftDown Sort.ltInt (b - a) a k e)] → ACall Tryz.prog 235 [.os 0 1 0 d.size, .v (.int .i64 k), .v (.int .i64 ((b : Int) - a)), .v (.int .i64 a)] [rowZ e] K := fun h => by rw [hba]; exact csSift' he k (b - a) a (by omega) (by omega) hsz h
    (all_goals (repeat' ((conv => whnf); first | (with_reducible refine hs ?_)|((with_reducible refine sl_full ?_ ?_);exact gA)|((with_reducible refine Ob.intro ?_ ?_);exact gC)|(with_reducible first|refine br_lt ?_|refine br_lf ?_)|((with_reducible refine br_pos ?_ ?_);exact gB)|((with_reducible refine br_neg ?_ ?_);exact gB)|(with_reducible(refine br_t ?_ ?_;assumption))|(with_reducible(refine br_f ?_ ?_;assumption))|(with_reducible first|refine br_dec (fun h=>?_) fun h=>?_|refine br_not ?_|refine br_b (fun h=>?_) fun h=>?_)|((with_reducible first|refine wr_i64 rfl ?_ ?_ ?_|refine wr_u64 rfl ?_ ?_ ?_|refine wr_u32 rfl ?_ ?_ ?_);exact gB;exact gB)|(with_reducible first|refine And.intro ?_ ?_|refine True.intro|refine Stp.go ?_)))); (all_goals (conv => whnf))
    refine ⟨(k, Sort.siftDown Sort.ltInt (b - a) a k e), ⟨by rw [sift_size, he], by dsimp only; omega, ?_⟩, by dsimp only; omega, ?_⟩
    · rw [← ht]; rfl
    · (refine Le.auto ?_; repeat' ((conv => whnf); first | with_reducible refine And.intro ?_ ?_ | with_reducible exact True.intro | rfl))
/-- slices.reverseRangeOrdered -/
theorem csRev (d : Array Int) (a b : Nat) (hab : a < b) (hb : b ≤ d.size) (hsz : d.size < 1000000000000) {K : AV → List Vm.Obj → Prop} (hK : K (.tup []) [rowZ (Sort.reverseRange d a b)]) :
    ACall Tryz.prog 228 [.os 0 1 0 d.size, .v (.int .i64 a), .v (.int .i64 b)] [rowZ d] K := by
  refine ofsRev rfl rfl ?_
  (all_goals (repeat' ((conv => whnf); first | ((with_reducible refine sl_full ?_ ?_);exact gA)|((with_reducible refine Ob.intro ?_ ?_);exact gC)|(with_reducible first|refine br_lt ?_|refine br_lf ?_)|((with_reducible refine br_pos ?_ ?_);exact gB)|((with_reducible refine br_neg ?_ ?_);exact gB)|(with_reducible(refine br_t ?_ ?_;assumption))|(with_reducible(refine br_f ?_ ?_;assumption))|(with_reducible first|refine br_dec (fun h=>?_) fun h=>?_|refine br_not ?_|refine br_b (fun h=>?_) fun h=>?_)|((with_reducible first|refine wr_i64 rfl ?_ ?_ ?_|refine wr_u64 rfl ?_ ?_ ?_|refine wr_u32 rfl ?_ ?_ ?_);exact gB;exact gB)|(with_reducible first|refine And.intro ?_ ?_|refine True.intro|refine Stp.go ?_)))); (all_goals (conv => whnf))
  refine Lp.intro (Nat × Nat × Array Int) (fun g => ⟨1, [(0, rowZ g.2.2)], [(0, .os 0 1 0 d.size), (1, .v (.int .i64 a)), (2, .v (.int .i64 b)), (6, .v (.int .i64 g.1)), (7, .v (.int .i64 g.2.1))]⟩)
    (fun g => g.2.2.size = d.size ∧ g.1 ≤ g.2.1 + 1 ∧ g.2.1 < d.size ∧ Sort.reverseLoop g.1 g.2.1 g.2.2 = Sort.reverseRange d a b) (fun g => g.2.1 - g.1) (a, b - 1, d) ⟨rfl, by dsimp only; omega, by dsimp only; omega, rfl⟩ ?_ ?_
  · dsimp only
    rw [Int.natCast_sub (by omega), Int.natCast_one]
    (refine Le.auto ?_; repeat' ((conv => whnf); first | with_reducible refine And.intro ?_ ?_ | with_reducible exact True.intro | rfl))
  rintro ⟨i, j, e⟩ ⟨he, hi, hj, ht⟩
  simp only at he hi hj ht ⊢
  rw [Sort.reverseLoop] at ht
  rcases Nat.lt_or_ge i j with h1 | h1
  · rw [if_pos h1] at ht
    have a1 : i < e.size := by omega
    have a2 : j < e.size := by omega
    have n1 : i < d.size := by omega
    have n2 : j < d.size := by omega
    (all_goals (repeat' ((conv => whnf); first | (with_reducible first|refine in_nat n1 ?_|refine in_nat n2 ?_|refine ix_z a1 ?_|refine ix_z a2 ?_)|(refine ix_zs (by omega) a2 ?_)|((with_reducible refine sl_full ?_ ?_);exact gA)|((with_reducible refine Ob.intro ?_ ?_);exact gC)|(with_reducible first|refine br_lt ?_|refine br_lf ?_)|((with_reducible refine br_pos ?_ ?_);exact gB)|((with_reducible refine br_neg ?_ ?_);exact gB)|(with_reducible(refine br_t ?_ ?_;assumption))|(with_reducible(refine br_f ?_ ?_;assumption))|(with_reducible first|refine br_dec (fun h=>?_) fun h=>?_|refine br_not ?_|refine br_b (fun h=>?_) fun h=>?_)|((with_reducible first|refine wr_i64 rfl ?_ ?_ ?_|refine wr_u64 rfl ?_ ?_ ?_|refine wr_u32 rfl ?_ ?_ ?_);exact gB;exact gB)|(with_reducible first|refine And.intro ?_ ?_|refine True.intro|refine Stp.go ?_)))); (all_goals (conv => whnf))
    refine ⟨(i + 1, j - 1, Sort.swp e i j), ⟨by rw [swp_size, he], by dsimp only; omega, by dsimp only; omega, ht⟩, by dsimp only; omega, ?_⟩
    dsimp only
    rw [Int.natCast_add, Int.natCast_one, Int.natCast_sub (by omega), Int.natCast_one, swp0]
    (refine Le.auto ?_; repeat' ((conv => whnf); first | with_reducible refine And.intro ?_ ?_ | with_reducible exact True.intro | rfl))
  · rw [if_neg (by omega)] at ht
    rw [← ht] at hK
    (all_goals (repeat' ((conv => whnf); first | ((with_reducible refine sl_full ?_ ?_);exact gA)|((with_reducible refine Ob.intro ?_ ?_);exact gC)|(with_reducible first|refine br_lt ?_|refine br_lf ?_)|((with_reducible refine br_pos ?_ ?_);exact gB)|((with_reducible refine br_neg ?_ ?_);exact gB)|(with_reducible(refine br_t ?_ ?_;assumption))|(with_reducible(refine br_f ?_ ?_;assumption))|(with_reducible first|refine br_dec (fun h=>?_) fun h=>?_|refine br_not ?_|refine br_b (fun h=>?_) fun h=>?_)|((with_reducible first|refine wr_i64 rfl ?_ ?_ ?_|refine wr_u64 rfl ?_ ?_ ?_|refine wr_u32 rfl ?_ ?_ ?_);exact gB;exact gB)|(with_reducible first|refine And.intro ?_ ?_|refine True.intro|refine Stp.go ?_)))); (all_goals (conv => whnf))
    exact hK
end Go.Proofs.YtokmdghjgegclaaGreatDoor

set_option linter.unusedVariables false
set_option linter.unusedSimpArgs false
set_option maxRecDepth 20000
set_option maxHeartbeats 1000000
namespace Go.Proofs.YtokmdghjgegclaaGreatDoor
open Go Go.Vm

/-- slices.partitionOrdered -/
theorem csPart (d : Array Int) (a b p : Nat) (hap : a ≤ p) (hpb : p < b) (hb : b ≤ d.size) (hsz : d.size < 1000000000000) {K : AV → List Vm.Obj → Prop} (hK : K (.tup [.v (.int .i64 (Sort.partition Sort.ltInt d a b p).1), .sb (Sort.partition Sort.ltInt d a b p).2.1]) [rowZ (Sort.partition Sort.ltInt d a b p).2.2]) :
    ACall Tryz.prog 232 [.os 0 1 0 d.size, .v (.int .i64 a), .v (.int .i64 b), .v (.int .i64 p)] [rowZ d] K := by
  refine ACall.weak (ofsPart rfl rfl ?_)
  have na : a < d.size := by omega
  have np : p < d.size := by omega
  have hb1 : (b : Int) - 1 = ((b - 1 : Nat) : Int) := by omega
  have ha1 : (a : Int) + 1 = ((a + 1 : Nat) : Int) := by omega
  obtain ⟨e, he⟩ : ∃ e, e = Sort.swp d a p := ⟨_, rfl⟩
  have hes : e.size = d.size := by rw [he, swp_size]
  have na' : a < e.size := by omega
  unfold Sort.partition at hK
  rw [← he] at hK
  simp only at hK
  (all_goals (repeat' ((conv => whnf); first | (with_reducible first|refine in_nat na ?_|refine in_nat np ?_|refine ix_z na ?_|refine ix_z np ?_)|(refine ix_zw np fun z => ?_)|(rw [swp0, ← he])|((with_reducible refine sl_full ?_ ?_);exact gA)|((with_reducible refine Ob.intro ?_ ?_);exact gC)|(with_reducible first|refine br_lt ?_|refine br_lf ?_)|((with_reducible refine br_pos ?_ ?_);exact gB)|((with_reducible refine br_neg ?_ ?_);exact gB)|(with_reducible(refine br_t ?_ ?_;assumption))|(with_reducible(refine br_f ?_ ?_;assumption))|(with_reducible first|refine br_dec (fun h=>?_) fun h=>?_|refine br_not ?_|refine br_b (fun h=>?_) fun h=>?_)|((with_reducible first|refine wr_i64 rfl ?_ ?_ ?_|refine wr_u64 rfl ?_ ?_ ?_|refine wr_u32 rfl ?_ ?_ ?_);exact gB;exact gB)|(with_reducible first|refine And.intro ?_ ?_|refine True.intro|refine Stp.go ?_)))); (all_goals (conv => whnf))
  obtain ⟨i1, hi1⟩ : ∃ i1, i1 = Sort.scanUp (fun x => Sort.ltInt x e[a]!) e (b - 1) (a + 1) := ⟨_, rfl⟩
  have s1 := Sort.scanUp_spec (fun x => Sort.ltInt x e[a]!) e (b - 1) _ (a + 1) rfl
  rw [← hi1] at s1
  obtain ⟨s1a, s1b0, _, s1d⟩ := s1
  have s1b := s1b0 (by omega)
  obtain ⟨j1, hj1⟩ : ∃ j1, j1 = Sort.scanDown (fun x => !Sort.ltInt x e[a]!) e i1 (b - 1) := ⟨_, rfl⟩
  have s2 := Sort.scanDown_spec (fun x => !Sort.ltInt x e[a]!) e i1 (b - 1)
  rw [← hj1] at s2
  obtain ⟨s2a, s2b0, _, s2d⟩ := s2
  have s2b := s2b0 (by omega)
  refine Jn.at ⟨1, [(0, rowZ e)], [(0, .os 0 1 0 d.size), (1, .v (.int .i64 a)), (10, .v (.int .i64 ((i1 : Nat) : Int))), (11, .v (.int .i64 (((b - 1) : Nat) : Int)))]⟩ ?_ ?_
  · rw [hi1]
    refine Lp.intro Nat (fun k => ⟨1, [(0, rowZ e)], [(0, .os 0 1 0 d.size), (1, .v (.int .i64 a)), (10, .v (.int .i64 k)), (11, .v (.int .i64 (((b - 1) : Nat) : Int)))]⟩) (fun k => (a + 1) ≤ k ∧ k ≤ (b - 1) + 1 ∧ Sort.scanUp (fun x => Sort.ltInt x e[a]!) e (b - 1) k = Sort.scanUp (fun x => Sort.ltInt x e[a]!) e (b - 1) (a + 1)) (fun k => (b - 1) + 1 - k) (a + 1) ⟨Nat.le_refl _, by omega, rfl⟩ ?_ ?_
    · rw [ha1, hb1]; (refine Le.auto ?_; repeat' ((conv => whnf); first | with_reducible refine And.intro ?_ ?_ | with_reducible exact True.intro | rfl))
    intro k ⟨hk1, hk2, hk3⟩
    rw [Sort.scanUp] at hk3
    rcases Nat.lt_or_ge (b - 1) k with hjk | hjk
    · rw [if_neg (by simp; omega)] at hk3
      (all_goals (repeat' ((conv => whnf); first | ((with_reducible refine sl_full ?_ ?_);exact gA)|((with_reducible refine Ob.intro ?_ ?_);exact gC)|(with_reducible first|refine br_lt ?_|refine br_lf ?_)|((with_reducible refine br_pos ?_ ?_);exact gB)|((with_reducible refine br_neg ?_ ?_);exact gB)|(with_reducible(refine br_t ?_ ?_;assumption))|(with_reducible(refine br_f ?_ ?_;assumption))|(with_reducible first|refine br_dec (fun h=>?_) fun h=>?_|refine br_not ?_|refine br_b (fun h=>?_) fun h=>?_)|((with_reducible first|refine wr_i64 rfl ?_ ?_ ?_|refine wr_u64 rfl ?_ ?_ ?_|refine wr_u32 rfl ?_ ?_ ?_);exact gB;exact gB)|(with_reducible first|refine And.intro ?_ ?_|refine True.intro|refine Stp.go ?_)))); (all_goals (conv => whnf))
      refine ⟨(), trivial, ?_⟩
      rw [← hk3]
      (refine Le.auto ?_; repeat' ((conv => whnf); first | with_reducible refine And.intro ?_ ?_ | with_reducible exact True.intro | rfl))
    · have n1 : k < d.size := by omega
      have n1' : k < e.size := by omega
      (all_goals (repeat' ((conv => whnf); first | (with_reducible first|refine csLess _ _ ?_|refine in_nat n1 ?_|refine in_nat na ?_|refine ix_z n1' ?_|refine ix_z na' ?_)|((with_reducible refine sl_full ?_ ?_);exact gA)|((with_reducible refine Ob.intro ?_ ?_);exact gC)|(with_reducible first|refine br_lt ?_|refine br_lf ?_)|((with_reducible refine br_pos ?_ ?_);exact gB)|((with_reducible refine br_neg ?_ ?_);exact gB)|(with_reducible(refine br_t ?_ ?_;assumption))|(with_reducible(refine br_f ?_ ?_;assumption))|(with_reducible first|refine br_dec (fun h=>?_) fun h=>?_|refine br_not ?_|refine br_b (fun h=>?_) fun h=>?_)|((with_reducible first|refine wr_i64 rfl ?_ ?_ ?_|refine wr_u64 rfl ?_ ?_ ?_|refine wr_u32 rfl ?_ ?_ ?_);exact gB;exact gB)|(with_reducible first|refine And.intro ?_ ?_|refine True.intro|refine Stp.go ?_)))); (all_goals (conv => whnf))
      all_goals first
        | (rw [if_pos (by simp [h]; omega)] at hk3
           refine ⟨k + 1, ⟨by omega, by omega, hk3⟩, by omega, ?_⟩
           rw [Int.natCast_add, Int.natCast_one]
           (refine Le.auto ?_; repeat' ((conv => whnf); first | with_reducible refine And.intro ?_ ?_ | with_reducible exact True.intro | rfl)))
        | (rw [if_neg (by simp [h])] at hk3
           refine ⟨(), trivial, ?_⟩
           rw [← hk3]
           (refine Le.auto ?_; repeat' ((conv => whnf); first | with_reducible refine And.intro ?_ ?_ | with_reducible exact True.intro | rfl)))
  refine Jn.at ⟨1, [(0, rowZ e)], [(0, .os 0 1 0 d.size), (1, .v (.int .i64 a)), (10, .v (.int .i64 ((i1 : Nat) : Int))), (11, .v (.int .i64 ((j1 : Nat) : Int)))]⟩ ?_ ?_
  · rw [hj1]
    refine Lp.intro Nat (fun k => ⟨1, [(0, rowZ e)], [(0, .os 0 1 0 d.size), (1, .v (.int .i64 a)), (10, .v (.int .i64 ((i1 : Nat) : Int))), (11, .v (.int .i64 k))]⟩) (fun k => i1 ≤ k + 1 ∧ k ≤ (b - 1) ∧ Sort.scanDown (fun x => !Sort.ltInt x e[a]!) e i1 k = Sort.scanDown (fun x => !Sort.ltInt x e[a]!) e i1 (b - 1)) (fun k => k) (b - 1) ⟨by omega, Nat.le_refl _, rfl⟩ ?_ ?_
    · (refine Le.auto ?_; repeat' ((conv => whnf); first | with_reducible refine And.intro ?_ ?_ | with_reducible exact True.intro | rfl))
    intro k ⟨hk1, hk2, hk3⟩
    rcases Nat.lt_or_ge k i1 with hjk | hjk
    · have hk4 : Sort.scanDown (fun x => !Sort.ltInt x e[a]!) e i1 k = k := by
        cases k with
        | zero => rfl
        | succ k => rw [Sort.scanDown, if_neg (by simp; omega)]
      rw [hk4] at hk3
      (all_goals (repeat' ((conv => whnf); first | ((with_reducible refine sl_full ?_ ?_);exact gA)|((with_reducible refine Ob.intro ?_ ?_);exact gC)|(with_reducible first|refine br_lt ?_|refine br_lf ?_)|((with_reducible refine br_pos ?_ ?_);exact gB)|((with_reducible refine br_neg ?_ ?_);exact gB)|(with_reducible(refine br_t ?_ ?_;assumption))|(with_reducible(refine br_f ?_ ?_;assumption))|(with_reducible first|refine br_dec (fun h=>?_) fun h=>?_|refine br_not ?_|refine br_b (fun h=>?_) fun h=>?_)|((with_reducible first|refine wr_i64 rfl ?_ ?_ ?_|refine wr_u64 rfl ?_ ?_ ?_|refine wr_u32 rfl ?_ ?_ ?_);exact gB;exact gB)|(with_reducible first|refine And.intro ?_ ?_|refine True.intro|refine Stp.go ?_)))); (all_goals (conv => whnf))
      refine ⟨(), trivial, ?_⟩
      rw [← hk3]
      (refine Le.auto ?_; repeat' ((conv => whnf); first | with_reducible refine And.intro ?_ ?_ | with_reducible exact True.intro | rfl))
    · obtain ⟨m, rfl⟩ : ∃ m, k = m + 1 := ⟨k - 1, by omega⟩
      have n1 : m + 1 < d.size := by omega
      have n1' : m + 1 < e.size := by omega
      have hm : ((m + 1 : Nat) : Int) - 1 = (m : Nat) := by omega
      rw [Sort.scanDown] at hk3
      (all_goals (repeat' ((conv => whnf); first | (with_reducible first|refine csLess _ _ ?_|refine in_nat n1 ?_|refine in_nat na ?_|refine ix_z n1' ?_|refine ix_z na' ?_)|((with_reducible refine sl_full ?_ ?_);exact gA)|((with_reducible refine Ob.intro ?_ ?_);exact gC)|(with_reducible first|refine br_lt ?_|refine br_lf ?_)|((with_reducible refine br_pos ?_ ?_);exact gB)|((with_reducible refine br_neg ?_ ?_);exact gB)|(with_reducible(refine br_t ?_ ?_;assumption))|(with_reducible(refine br_f ?_ ?_;assumption))|(with_reducible first|refine br_dec (fun h=>?_) fun h=>?_|refine br_not ?_|refine br_b (fun h=>?_) fun h=>?_)|((with_reducible first|refine wr_i64 rfl ?_ ?_ ?_|refine wr_u64 rfl ?_ ?_ ?_|refine wr_u32 rfl ?_ ?_ ?_);exact gB;exact gB)|(with_reducible first|refine And.intro ?_ ?_|refine True.intro|refine Stp.go ?_)))); (all_goals (conv => whnf))
      all_goals first
        | (rw [if_pos (by simp [h]; omega)] at hk3
           refine ⟨m, ⟨by omega, by omega, hk3⟩, by omega, ?_⟩
           rw [hm]
           (refine Le.auto ?_; repeat' ((conv => whnf); first | with_reducible refine And.intro ?_ ?_ | with_reducible exact True.intro | rfl)))
        | (rw [if_neg (by simp [h])] at hk3
           refine ⟨(), trivial, ?_⟩
           rw [← hk3]
           (refine Le.auto ?_; repeat' ((conv => whnf); first | with_reducible refine And.intro ?_ ?_ | with_reducible exact True.intro | rfl)))
  rw [← hi1, ← hj1] at hK
  have ni : j1 < d.size := by omega
  have ni' : j1 < e.size := by omega
  rcases Nat.lt_or_ge j1 i1 with hij | hij
  · rw [if_pos hij] at hK
    (all_goals (repeat' ((conv => whnf); first | (with_reducible first|refine in_nat na ?_|refine in_nat ni ?_|refine ix_z na' ?_|refine ix_z ni' ?_)|(refine ix_zw na' fun z => ?_)|(rw [swp0])|((with_reducible refine sl_full ?_ ?_);exact gA)|((with_reducible refine Ob.intro ?_ ?_);exact gC)|(with_reducible first|refine br_lt ?_|refine br_lf ?_)|((with_reducible refine br_pos ?_ ?_);exact gB)|((with_reducible refine br_neg ?_ ?_);exact gB)|(with_reducible(refine br_t ?_ ?_;assumption))|(with_reducible(refine br_f ?_ ?_;assumption))|(with_reducible first|refine br_dec (fun h=>?_) fun h=>?_|refine br_not ?_|refine br_b (fun h=>?_) fun h=>?_)|((with_reducible first|refine wr_i64 rfl ?_ ?_ ?_|refine wr_u64 rfl ?_ ?_ ?_|refine wr_u32 rfl ?_ ?_ ?_);exact gB;exact gB)|(with_reducible first|refine And.intro ?_ ?_|refine True.intro|refine Stp.go ?_)))); (all_goals (conv => whnf))
    exact ⟨_, Weak.tup2 Weak.refl Weak.bool, hK⟩
  · have hlt : i1 < j1 := by
      rcases Nat.lt_or_ge i1 j1 with h9 | h9
      · exact h9
      · have h8 : j1 = i1 := by omega
        rw [h8] at s2d
        have u := s1d (by omega)
        have v := s2d (Nat.le_refl _) (by omega)
        revert u v
        cases Sort.ltInt e[i1]! e[a]! <;> simp
    have nj : i1 < d.size := by omega
    have nj' : i1 < e.size := by omega
    rw [if_neg (by omega)] at hK
    simp only at hK
    have hi11 : (i1 : Int) + 1 = ((i1 + 1 : Nat) : Int) := by omega
    have hj11 : (j1 : Int) - 1 = ((j1 - 1 : Nat) : Int) := by omega
    (all_goals (repeat' ((conv => whnf); first | (with_reducible first|refine in_nat nj ?_|refine in_nat ni ?_|refine ix_z nj' ?_|refine ix_z ni' ?_)|(refine ix_zw ni' fun z => ?_)|(rw [swp0])|((with_reducible refine sl_full ?_ ?_);exact gA)|((with_reducible refine Ob.intro ?_ ?_);exact gC)|(with_reducible first|refine br_lt ?_|refine br_lf ?_)|((with_reducible refine br_pos ?_ ?_);exact gB)|((with_reducible refine br_neg ?_ ?_);exact gB)|(with_reducible(refine br_t ?_ ?_;assumption))|(with_reducible(refine br_f ?_ ?_;assumption))|(with_reducible first|refine br_dec (fun h=>?_) fun h=>?_|refine br_not ?_|refine br_b (fun h=>?_) fun h=>?_)|((with_reducible first|refine wr_i64 rfl ?_ ?_ ?_|refine wr_u64 rfl ?_ ?_ ?_|refine wr_u32 rfl ?_ ?_ ?_);exact gB;exact gB)|(with_reducible first|refine And.intro ?_ ?_|refine True.intro|refine Stp.go ?_)))); (all_goals (conv => whnf))
    refine Lp.intro (Nat × Nat × Array Int) (fun g => ⟨1, [(0, rowZ g.2.2)], [(0, .os 0 1 0 d.size), (1, .v (.int .i64 a)), (10, .v (.int .i64 g.1)), (11, .v (.int .i64 g.2.1))]⟩) (fun g => g.2.2.size = d.size ∧ a < g.1 ∧ g.1 ≤ g.2.1 + 1 ∧ g.2.1 < d.size ∧ Sort.partLoop Sort.ltInt a g.1 g.2.1 g.2.2 = Sort.partLoop Sort.ltInt a (i1 + 1) (j1 - 1) (Sort.swp e i1 j1)) (fun g => g.2.1 + 1 - g.1) (i1 + 1, j1 - 1, Sort.swp e i1 j1) ⟨by rw [swp_size, hes], by dsimp only; omega, by dsimp only; omega, by dsimp only; omega, rfl⟩ ?_ ?_
    · dsimp only
      rw [← hi11, ← hj11]
      (refine Le.auto ?_; repeat' ((conv => whnf); first | with_reducible refine And.intro ?_ ?_ | with_reducible exact True.intro | rfl))
    generalize Sort.partLoop Sort.ltInt a (i1 + 1) (j1 - 1) (Sort.swp e i1 j1) = T at *
    rintro ⟨i, j, e⟩ ⟨hes, hai, hij, hjn, ht⟩
    simp only at hes hai hij hjn ht ⊢
    rw [Sort.partLoop_eq] at ht
    have na' : a < e.size := by omega
    obtain ⟨i1, hi1⟩ : ∃ i1, i1 = Sort.scanUp (fun x => Sort.ltInt x e[a]!) e j i := ⟨_, rfl⟩
    have s1 := Sort.scanUp_spec (fun x => Sort.ltInt x e[a]!) e j _ i rfl
    rw [← hi1] at s1
    obtain ⟨s1a, s1b0, _, s1d⟩ := s1
    have s1b := s1b0 (by omega)
    obtain ⟨j1, hj1⟩ : ∃ j1, j1 = Sort.scanDown (fun x => !Sort.ltInt x e[a]!) e i1 j := ⟨_, rfl⟩
    have s2 := Sort.scanDown_spec (fun x => !Sort.ltInt x e[a]!) e i1 j
    rw [← hj1] at s2
    obtain ⟨s2a, s2b0, _, s2d⟩ := s2
    have s2b := s2b0 (by omega)
    refine Jn.at ⟨1, [(0, rowZ e)], [(0, .os 0 1 0 d.size), (1, .v (.int .i64 a)), (10, .v (.int .i64 ((i1 : Nat) : Int))), (11, .v (.int .i64 ((j : Nat) : Int)))]⟩ ?_ ?_
    · rw [hi1]
      refine Lp.intro Nat (fun k => ⟨1, [(0, rowZ e)], [(0, .os 0 1 0 d.size), (1, .v (.int .i64 a)), (10, .v (.int .i64 k)), (11, .v (.int .i64 ((j : Nat) : Int)))]⟩) (fun k => i ≤ k ∧ k ≤ j + 1 ∧ Sort.scanUp (fun x => Sort.ltInt x e[a]!) e j k = Sort.scanUp (fun x => Sort.ltInt x e[a]!) e j i) (fun k => j + 1 - k) i ⟨Nat.le_refl _, by omega, rfl⟩ ?_ ?_
      · (refine Le.auto ?_; repeat' ((conv => whnf); first | with_reducible refine And.intro ?_ ?_ | with_reducible exact True.intro | rfl))
      intro k ⟨hk1, hk2, hk3⟩
      rw [Sort.scanUp] at hk3
      rcases Nat.lt_or_ge j k with hjk | hjk
      · rw [if_neg (by simp; omega)] at hk3
        (all_goals (repeat' ((conv => whnf); first | ((with_reducible refine sl_full ?_ ?_);exact gA)|((with_reducible refine Ob.intro ?_ ?_);exact gC)|(with_reducible first|refine br_lt ?_|refine br_lf ?_)|((with_reducible refine br_pos ?_ ?_);exact gB)|((with_reducible refine br_neg ?_ ?_);exact gB)|(with_reducible(refine br_t ?_ ?_;assumption))|(with_reducible(refine br_f ?_ ?_;assumption))|(with_reducible first|refine br_dec (fun h=>?_) fun h=>?_|refine br_not ?_|refine br_b (fun h=>?_) fun h=>?_)|((with_reducible first|refine wr_i64 rfl ?_ ?_ ?_|refine wr_u64 rfl ?_ ?_ ?_|refine wr_u32 rfl ?_ ?_ ?_);exact gB;exact gB)|(with_reducible first|refine And.intro ?_ ?_|refine True.intro|refine Stp.go ?_)))); (all_goals (conv => whnf))
        refine ⟨(), trivial, ?_⟩
        rw [← hk3]
        (refine Le.auto ?_; repeat' ((conv => whnf); first | with_reducible refine And.intro ?_ ?_ | with_reducible exact True.intro | rfl))
      · have n1 : k < d.size := by omega
        have n1' : k < e.size := by omega
        (all_goals (repeat' ((conv => whnf); first | (with_reducible first|refine csLess _ _ ?_|refine in_nat n1 ?_|refine in_nat na ?_|refine ix_z n1' ?_|refine ix_z na' ?_)|((with_reducible refine sl_full ?_ ?_);exact gA)|((with_reducible refine Ob.intro ?_ ?_);exact gC)|(with_reducible first|refine br_lt ?_|refine br_lf ?_)|((with_reducible refine br_pos ?_ ?_);exact gB)|((with_reducible refine br_neg ?_ ?_);exact gB)|(with_reducible(refine br_t ?_ ?_;assumption))|(with_reducible(refine br_f ?_ ?_;assumption))|(with_reducible first|refine br_dec (fun h=>?_) fun h=>?_|refine br_not ?_|refine br_b (fun h=>?_) fun h=>?_)|((with_reducible first|refine wr_i64 rfl ?_ ?_ ?_|refine wr_u64 rfl ?_ ?_ ?_|refine wr_u32 rfl ?_ ?_ ?_);exact gB;exact gB)|(with_reducible first|refine And.intro ?_ ?_|refine True.intro|refine Stp.go ?_)))); (all_goals (conv => whnf))
        all_goals first
          | (rw [if_pos (by simp [h]; omega)] at hk3
             refine ⟨k + 1, ⟨by omega, by omega, hk3⟩, by omega, ?_⟩
             rw [Int.natCast_add, Int.natCast_one]
             (refine Le.auto ?_; repeat' ((conv => whnf); first | with_reducible refine And.intro ?_ ?_ | with_reducible exact True.intro | rfl)))
          | (rw [if_neg (by simp [h])] at hk3
             refine ⟨(), trivial, ?_⟩
             rw [← hk3]
             (refine Le.auto ?_; repeat' ((conv => whnf); first | with_reducible refine And.intro ?_ ?_ | with_reducible exact True.intro | rfl)))
    refine Jn.at ⟨1, [(0, rowZ e)], [(0, .os 0 1 0 d.size), (1, .v (.int .i64 a)), (10, .v (.int .i64 ((i1 : Nat) : Int))), (11, .v (.int .i64 ((j1 : Nat) : Int)))]⟩ ?_ ?_
    · rw [hj1]
      refine Lp.intro Nat (fun k => ⟨1, [(0, rowZ e)], [(0, .os 0 1 0 d.size), (1, .v (.int .i64 a)), (10, .v (.int .i64 ((i1 : Nat) : Int))), (11, .v (.int .i64 k))]⟩) (fun k => i1 ≤ k + 1 ∧ k ≤ j ∧ Sort.scanDown (fun x => !Sort.ltInt x e[a]!) e i1 k = Sort.scanDown (fun x => !Sort.ltInt x e[a]!) e i1 j) (fun k => k) j ⟨by omega, Nat.le_refl _, rfl⟩ ?_ ?_
      · (refine Le.auto ?_; repeat' ((conv => whnf); first | with_reducible refine And.intro ?_ ?_ | with_reducible exact True.intro | rfl))
      intro k ⟨hk1, hk2, hk3⟩
      rcases Nat.lt_or_ge k i1 with hjk | hjk
      · have hk4 : Sort.scanDown (fun x => !Sort.ltInt x e[a]!) e i1 k = k := by
          cases k with
          | zero => rfl
          | succ k => rw [Sort.scanDown, if_neg (by simp; omega)]
        rw [hk4] at hk3
        (all_goals (repeat' ((conv => whnf); first | ((with_reducible refine sl_full ?_ ?_);exact gA)|((with_reducible refine Ob.intro ?_ ?_);exact gC)|(with_reducible first|refine br_lt ?_|refine br_lf ?_)|((with_reducible refine br_pos ?_ ?_);exact gB)|((with_reducible refine br_neg ?_ ?_);exact gB)|(with_reducible(refine br_t ?_ ?_;assumption))|(with_reducible(refine br_f ?_ ?_;assumption))|(with_reducible first|refine br_dec (fun h=>?_) fun h=>?_|refine br_not ?_|refine br_b (fun h=>?_) fun h=>?_)|((with_reducible first|refine wr_i64 rfl ?_ ?_ ?_|refine wr_u64 rfl ?_ ?_ ?_|refine wr_u32 rfl ?_ ?_ ?_);exact gB;exact gB)|(with_reducible first|refine And.intro ?_ ?_|refine True.intro|refine Stp.go ?_)))); (all_goals (conv => whnf))
        refine ⟨(), trivial, ?_⟩
        rw [← hk3]
        (refine Le.auto ?_; repeat' ((conv => whnf); first | with_reducible refine And.intro ?_ ?_ | with_reducible exact True.intro | rfl))
      · obtain ⟨m, rfl⟩ : ∃ m, k = m + 1 := ⟨k - 1, by omega⟩
        have n1 : m + 1 < d.size := by omega
        have n1' : m + 1 < e.size := by omega
        have hm : ((m + 1 : Nat) : Int) - 1 = (m : Nat) := by omega
        rw [Sort.scanDown] at hk3
        (all_goals (repeat' ((conv => whnf); first | (with_reducible first|refine csLess _ _ ?_|refine in_nat n1 ?_|refine in_nat na ?_|refine ix_z n1' ?_|refine ix_z na' ?_)|((with_reducible refine sl_full ?_ ?_);exact gA)|((with_reducible refine Ob.intro ?_ ?_);exact gC)|(with_reducible first|refine br_lt ?_|refine br_lf ?_)|((with_reducible refine br_pos ?_ ?_);exact gB)|((with_reducible refine br_neg ?_ ?_);exact gB)|(with_reducible(refine br_t ?_ ?_;assumption))|(with_reducible(refine br_f ?_ ?_;assumption))|(with_reducible first|refine br_dec (fun h=>?_) fun h=>?_|refine br_not ?_|refine br_b (fun h=>?_) fun h=>?_)|((with_reducible first|refine wr_i64 rfl ?_ ?_ ?_|refine wr_u64 rfl ?_ ?_ ?_|refine wr_u32 rfl ?_ ?_ ?_);exact gB;exact gB)|(with_reducible first|refine And.intro ?_ ?_|refine True.intro|refine Stp.go ?_)))); (all_goals (conv => whnf))
        all_goals first
          | (rw [if_pos (by simp [h]; omega)] at hk3
             refine ⟨m, ⟨by omega, by omega, hk3⟩, by omega, ?_⟩
             rw [hm]
             (refine Le.auto ?_; repeat' ((conv => whnf); first | with_reducible refine And.intro ?_ ?_ | with_reducible exact True.intro | rfl)))
          | (rw [if_neg (by simp [h])] at hk3
             refine ⟨(), trivial, ?_⟩
             rw [← hk3]
             (refine Le.auto ?_; repeat' ((conv => whnf); first | with_reducible refine And.intro ?_ ?_ | with_reducible exact True.intro | rfl)))
    rw [← hi1, ← hj1] at ht
    have ni : j1 < d.size := by omega
    have ni' : j1 < e.size := by omega
    rcases Nat.lt_or_ge j1 i1 with hx | hx
    · rw [if_pos hx] at ht
      subst ht
      (all_goals (repeat' ((conv => whnf); first | (with_reducible first|refine in_nat na ?_|refine in_nat ni ?_|refine ix_z na' ?_|refine ix_z ni' ?_)|(refine ix_zw na' fun z => ?_)|(rw [swp0])|((with_reducible refine sl_full ?_ ?_);exact gA)|((with_reducible refine Ob.intro ?_ ?_);exact gC)|(with_reducible first|refine br_lt ?_|refine br_lf ?_)|((with_reducible refine br_pos ?_ ?_);exact gB)|((with_reducible refine br_neg ?_ ?_);exact gB)|(with_reducible(refine br_t ?_ ?_;assumption))|(with_reducible(refine br_f ?_ ?_;assumption))|(with_reducible first|refine br_dec (fun h=>?_) fun h=>?_|refine br_not ?_|refine br_b (fun h=>?_) fun h=>?_)|((with_reducible first|refine wr_i64 rfl ?_ ?_ ?_|refine wr_u64 rfl ?_ ?_ ?_|refine wr_u32 rfl ?_ ?_ ?_);exact gB;exact gB)|(with_reducible first|refine And.intro ?_ ?_|refine True.intro|refine Stp.go ?_)))); (all_goals (conv => whnf))
      exact ⟨_, Weak.tup2 Weak.refl Weak.bool, hK⟩
    · have hlt : i1 < j1 := by
        rcases Nat.lt_or_ge i1 j1 with h9 | h9
        · exact h9
        · have h8 : j1 = i1 := by omega
          rw [h8] at s2d
          have u := s1d (by omega)
          have v := s2d (Nat.le_refl _) (by omega)
          revert u v
          cases Sort.ltInt e[i1]! e[a]! <;> simp
      have nj : i1 < d.size := by omega
      have nj' : i1 < e.size := by omega
      rw [if_neg (by omega)] at ht
      have hi11 : (i1 : Int) + 1 = ((i1 + 1 : Nat) : Int) := by omega
      have hj11 : (j1 : Int) - 1 = ((j1 - 1 : Nat) : Int) := by omega
      (all_goals (repeat' ((conv => whnf); first | (with_reducible first|refine in_nat nj ?_|refine in_nat ni ?_|refine ix_z nj' ?_|refine ix_z ni' ?_)|(refine ix_zw ni' fun z => ?_)|(rw [swp0])|((with_reducible refine sl_full ?_ ?_);exact gA)|((with_reducible refine Ob.intro ?_ ?_);exact gC)|(with_reducible first|refine br_lt ?_|refine br_lf ?_)|((with_reducible refine br_pos ?_ ?_);exact gB)|((with_reducible refine br_neg ?_ ?_);exact gB)|(with_reducible(refine br_t ?_ ?_;assumption))|(with_reducible(refine br_f ?_ ?_;assumption))|(with_reducible first|refine br_dec (fun h=>?_) fun h=>?_|refine br_not ?_|refine br_b (fun h=>?_) fun h=>?_)|((with_reducible first|refine wr_i64 rfl ?_ ?_ ?_|refine wr_u64 rfl ?_ ?_ ?_|refine wr_u32 rfl ?_ ?_ ?_);exact gB;exact gB)|(with_reducible first|refine And.intro ?_ ?_|refine True.intro|refine Stp.go ?_)))); (all_goals (conv => whnf))
      refine ⟨(i1 + 1, j1 - 1, Sort.swp e i1 j1), ⟨by rw [swp_size, hes], by dsimp only; omega, by dsimp only; omega, by dsimp only; omega, ht⟩, by dsimp only; omega, ?_⟩
      dsimp only
      rw [← hi11, ← hj11]
      (refine Le.auto ?_; repeat' ((conv => whnf); first | with_reducible refine And.intro ?_ ?_ | with_reducible exact True.intro | rfl))
/-- slices.partitionEqualOrdered -/
theorem csPeq (d : Array Int) (a b p : Nat) (hap : a ≤ p) (hpb : p < b) (hb : b ≤ d.size) (hsz : d.size < 1000000000000) {K : AV → List Vm.Obj → Prop} (hK : K (.v (.int .i64 (Sort.partitionEqual Sort.ltInt d a b p).1)) [rowZ (Sort.partitionEqual Sort.ltInt d a b p).2]) :
    ACall Tryz.prog 231 [.os 0 1 0 d.size, .v (.int .i64 a), .v (.int .i64 b), .v (.int .i64 p)] [rowZ d] K := by
  refine ofsPeq rfl rfl ?_
  have na : a < d.size := by omega
  have np : p < d.size := by omega
  have hb1 : (b : Int) - 1 = ((b - 1 : Nat) : Int) := by omega
  have ha1 : (a : Int) + 1 = ((a + 1 : Nat) : Int) := by omega
  unfold Sort.partitionEqual at hK
  (all_goals (repeat' ((conv => whnf); first | (with_reducible first|refine in_nat na ?_|refine in_nat np ?_|refine ix_z na ?_|refine ix_z np ?_)|(refine ix_zw np fun z => ?_)|(rw [swp0])|((with_reducible refine sl_full ?_ ?_);exact gA)|((with_reducible refine Ob.intro ?_ ?_);exact gC)|(with_reducible first|refine br_lt ?_|refine br_lf ?_)|((with_reducible refine br_pos ?_ ?_);exact gB)|((with_reducible refine br_neg ?_ ?_);exact gB)|(with_reducible(refine br_t ?_ ?_;assumption))|(with_reducible(refine br_f ?_ ?_;assumption))|(with_reducible first|refine br_dec (fun h=>?_) fun h=>?_|refine br_not ?_|refine br_b (fun h=>?_) fun h=>?_)|((with_reducible first|refine wr_i64 rfl ?_ ?_ ?_|refine wr_u64 rfl ?_ ?_ ?_|refine wr_u32 rfl ?_ ?_ ?_);exact gB;exact gB)|(with_reducible first|refine And.intro ?_ ?_|refine True.intro|refine Stp.go ?_)))); (all_goals (conv => whnf))
  refine Lp.intro (Nat × Nat × Array Int) (fun g => ⟨1, [(0, rowZ g.2.2)], [(0, .os 0 1 0 d.size), (1, .v (.int .i64 a)), (9, .v (.int .i64 g.1)), (10, .v (.int .i64 g.2.1))]⟩) (fun g => g.2.2.size = d.size ∧ a < g.1 ∧ g.1 ≤ g.2.1 + 1 ∧ g.2.1 < d.size ∧ Sort.partEqLoop Sort.ltInt a g.1 g.2.1 g.2.2 = Sort.partEqLoop Sort.ltInt a (a + 1) (b - 1) (Sort.swp d a p)) (fun g => g.2.1 + 1 - g.1) (a + 1, b - 1, Sort.swp d a p) ⟨by rw [swp_size], by dsimp only; omega, by dsimp only; omega, by dsimp only; omega, rfl⟩ ?_ ?_
  · dsimp only
    rw [← ha1, ← hb1]
    (refine Le.auto ?_; repeat' ((conv => whnf); first | with_reducible refine And.intro ?_ ?_ | with_reducible exact True.intro | rfl))
  generalize Sort.partEqLoop Sort.ltInt a (a + 1) (b - 1) (Sort.swp d a p) = T at *
  rintro ⟨i, j, e⟩ ⟨hes, hai, hij, hjn, ht⟩
  simp only at hes hai hij hjn ht ⊢
  rw [Sort.partEqLoop_eq] at ht
  have na' : a < e.size := by omega
  obtain ⟨i1, hi1⟩ : ∃ i1, i1 = Sort.scanUp (fun x => !Sort.ltInt e[a]! x) e j i := ⟨_, rfl⟩
  have s1 := Sort.scanUp_spec (fun x => !Sort.ltInt e[a]! x) e j _ i rfl
  rw [← hi1] at s1
  obtain ⟨s1a, s1b0, _, s1d⟩ := s1
  have s1b := s1b0 (by omega)
  obtain ⟨j1, hj1⟩ : ∃ j1, j1 = Sort.scanDown (fun x => Sort.ltInt e[a]! x) e i1 j := ⟨_, rfl⟩
  have s2 := Sort.scanDown_spec (fun x => Sort.ltInt e[a]! x) e i1 j
  rw [← hj1] at s2
  obtain ⟨s2a, s2b0, _, s2d⟩ := s2
  have s2b := s2b0 (by omega)
  refine Jn.at ⟨1, [(0, rowZ e)], [(0, .os 0 1 0 d.size), (1, .v (.int .i64 a)), (9, .v (.int .i64 ((i1 : Nat) : Int))), (10, .v (.int .i64 ((j : Nat) : Int)))]⟩ ?_ ?_
  · rw [hi1]
    refine Lp.intro Nat (fun k => ⟨1, [(0, rowZ e)], [(0, .os 0 1 0 d.size), (1, .v (.int .i64 a)), (9, .v (.int .i64 k)), (10, .v (.int .i64 ((j : Nat) : Int)))]⟩) (fun k => i ≤ k ∧ k ≤ j + 1 ∧ Sort.scanUp (fun x => !Sort.ltInt e[a]! x) e j k = Sort.scanUp (fun x => !Sort.ltInt e[a]! x) e j i) (fun k => j + 1 - k) i ⟨Nat.le_refl _, by omega, rfl⟩ ?_ ?_
    · (refine Le.auto ?_; repeat' ((conv => whnf); first | with_reducible refine And.intro ?_ ?_ | with_reducible exact True.intro | rfl))
    intro k ⟨hk1, hk2, hk3⟩
    rw [Sort.scanUp] at hk3
    rcases Nat.lt_or_ge j k with hjk | hjk
    · rw [if_neg (by simp; omega)] at hk3
      (all_goals (repeat' ((conv => whnf); first | ((with_reducible refine sl_full ?_ ?_);exact gA)|((with_reducible refine Ob.intro ?_ ?_);exact gC)|(with_reducible first|refine br_lt ?_|refine br_lf ?_)|((with_reducible refine br_pos ?_ ?_);exact gB)|((with_reducible refine br_neg ?_ ?_);exact gB)|(with_reducible(refine br_t ?_ ?_;assumption))|(with_reducible(refine br_f ?_ ?_;assumption))|(with_reducible first|refine br_dec (fun h=>?_) fun h=>?_|refine br_not ?_|refine br_b (fun h=>?_) fun h=>?_)|((with_reducible first|refine wr_i64 rfl ?_ ?_ ?_|refine wr_u64 rfl ?_ ?_ ?_|refine wr_u32 rfl ?_ ?_ ?_);exact gB;exact gB)|(with_reducible first|refine And.intro ?_ ?_|refine True.intro|refine Stp.go ?_)))); (all_goals (conv => whnf))
      refine ⟨(), trivial, ?_⟩
      rw [← hk3]
      (refine Le.auto ?_; repeat' ((conv => whnf); first | with_reducible refine And.intro ?_ ?_ | with_reducible exact True.intro | rfl))
    · have n1 : k < d.size := by omega
      have n1' : k < e.size := by omega
      (all_goals (repeat' ((conv => whnf); first | (with_reducible first|refine csLess _ _ ?_|refine in_nat n1 ?_|refine in_nat na ?_|refine ix_z n1' ?_|refine ix_z na' ?_)|((with_reducible refine sl_full ?_ ?_);exact gA)|((with_reducible refine Ob.intro ?_ ?_);exact gC)|(with_reducible first|refine br_lt ?_|refine br_lf ?_)|((with_reducible refine br_pos ?_ ?_);exact gB)|((with_reducible refine br_neg ?_ ?_);exact gB)|(with_reducible(refine br_t ?_ ?_;assumption))|(with_reducible(refine br_f ?_ ?_;assumption))|(with_reducible first|refine br_dec (fun h=>?_) fun h=>?_|refine br_not ?_|refine br_b (fun h=>?_) fun h=>?_)|((with_reducible first|refine wr_i64 rfl ?_ ?_ ?_|refine wr_u64 rfl ?_ ?_ ?_|refine wr_u32 rfl ?_ ?_ ?_);exact gB;exact gB)|(with_reducible first|refine And.intro ?_ ?_|refine True.intro|refine Stp.go ?_)))); (all_goals (conv => whnf))
      all_goals first
        | (rw [if_pos (by simp [h]; omega)] at hk3
           refine ⟨k + 1, ⟨by omega, by omega, hk3⟩, by omega, ?_⟩
           rw [Int.natCast_add, Int.natCast_one]
           (refine Le.auto ?_; repeat' ((conv => whnf); first | with_reducible refine And.intro ?_ ?_ | with_reducible exact True.intro | rfl)))
        | (rw [if_neg (by simp [h])] at hk3
           refine ⟨(), trivial, ?_⟩
           rw [← hk3]
           (refine Le.auto ?_; repeat' ((conv => whnf); first | with_reducible refine And.intro ?_ ?_ | with_reducible exact True.intro | rfl)))
  refine Jn.at ⟨1, [(0, rowZ e)], [(0, .os 0 1 0 d.size), (1, .v (.int .i64 a)), (9, .v (.int .i64 ((i1 : Nat) : Int))), (10, .v (.int .i64 ((j1 : Nat) : Int)))]⟩ ?_ ?_
  · rw [hj1]
    refine Lp.intro Nat (fun k => ⟨1, [(0, rowZ e)], [(0, .os 0 1 0 d.size), (1, .v (.int .i64 a)), (9, .v (.int .i64 ((i1 : Nat) : Int))), (10, .v (.int .i64 k))]⟩) (fun k => i1 ≤ k + 1 ∧ k ≤ j ∧ Sort.scanDown (fun x => Sort.ltInt e[a]! x) e i1 k = Sort.scanDown (fun x => Sort.ltInt e[a]! x) e i1 j) (fun k => k) j ⟨by omega, Nat.le_refl _, rfl⟩ ?_ ?_
    · (refine Le.auto ?_; repeat' ((conv => whnf); first | with_reducible refine And.intro ?_ ?_ | with_reducible exact True.intro | rfl))
    intro k ⟨hk1, hk2, hk3⟩
    rcases Nat.lt_or_ge k i1 with hjk | hjk
    · have hk4 : Sort.scanDown (fun x => Sort.ltInt e[a]! x) e i1 k = k := by
        cases k with
        | zero => rfl
        | succ k => rw [Sort.scanDown, if_neg (by simp; omega)]
      rw [hk4] at hk3
      (all_goals (repeat' ((conv => whnf); first | ((with_reducible refine sl_full ?_ ?_);exact gA)|((with_reducible refine Ob.intro ?_ ?_);exact gC)|(with_reducible first|refine br_lt ?_|refine br_lf ?_)|((with_reducible refine br_pos ?_ ?_);exact gB)|((with_reducible refine br_neg ?_ ?_);exact gB)|(with_reducible(refine br_t ?_ ?_;assumption))|(with_reducible(refine br_f ?_ ?_;assumption))|(with_reducible first|refine br_dec (fun h=>?_) fun h=>?_|refine br_not ?_|refine br_b (fun h=>?_) fun h=>?_)|((with_reducible first|refine wr_i64 rfl ?_ ?_ ?_|refine wr_u64 rfl ?_ ?_ ?_|refine wr_u32 rfl ?_ ?_ ?_);exact gB;exact gB)|(with_reducible first|refine And.intro ?_ ?_|refine True.intro|refine Stp.go ?_)))); (all_goals (conv => whnf))
      refine ⟨(), trivial, ?_⟩
      rw [← hk3]
      (refine Le.auto ?_; repeat' ((conv => whnf); first | with_reducible refine And.intro ?_ ?_ | with_reducible exact True.intro | rfl))
    · obtain ⟨m, rfl⟩ : ∃ m, k = m + 1 := ⟨k - 1, by omega⟩
      have n1 : m + 1 < d.size := by omega
      have n1' : m + 1 < e.size := by omega
      have hm : ((m + 1 : Nat) : Int) - 1 = (m : Nat) := by omega
      rw [Sort.scanDown] at hk3
      (all_goals (repeat' ((conv => whnf); first | (with_reducible first|refine csLess _ _ ?_|refine in_nat n1 ?_|refine in_nat na ?_|refine ix_z n1' ?_|refine ix_z na' ?_)|((with_reducible refine sl_full ?_ ?_);exact gA)|((with_reducible refine Ob.intro ?_ ?_);exact gC)|(with_reducible first|refine br_lt ?_|refine br_lf ?_)|((with_reducible refine br_pos ?_ ?_);exact gB)|((with_reducible refine br_neg ?_ ?_);exact gB)|(with_reducible(refine br_t ?_ ?_;assumption))|(with_reducible(refine br_f ?_ ?_;assumption))|(with_reducible first|refine br_dec (fun h=>?_) fun h=>?_|refine br_not ?_|refine br_b (fun h=>?_) fun h=>?_)|((with_reducible first|refine wr_i64 rfl ?_ ?_ ?_|refine wr_u64 rfl ?_ ?_ ?_|refine wr_u32 rfl ?_ ?_ ?_);exact gB;exact gB)|(with_reducible first|refine And.intro ?_ ?_|refine True.intro|refine Stp.go ?_)))); (all_goals (conv => whnf))
      all_goals first
        | (rw [if_pos (by simp [h]; omega)] at hk3
           refine ⟨m, ⟨by omega, by omega, hk3⟩, by omega, ?_⟩
           rw [hm]
           (refine Le.auto ?_; repeat' ((conv => whnf); first | with_reducible refine And.intro ?_ ?_ | with_reducible exact True.intro | rfl)))
        | (rw [if_neg (by simp [h])] at hk3
           refine ⟨(), trivial, ?_⟩
           rw [← hk3]
           (refine Le.auto ?_; repeat' ((conv => whnf); first | with_reducible refine And.intro ?_ ?_ | with_reducible exact True.intro | rfl)))
  rw [← hi1, ← hj1] at ht
  have ni : j1 < d.size := by omega
  have ni' : j1 < e.size := by omega
  rcases Nat.lt_or_ge j1 i1 with hx | hx
  · rw [if_pos hx] at ht
    subst ht
    (all_goals (repeat' ((conv => whnf); first | ((with_reducible refine sl_full ?_ ?_);exact gA)|((with_reducible refine Ob.intro ?_ ?_);exact gC)|(with_reducible first|refine br_lt ?_|refine br_lf ?_)|((with_reducible refine br_pos ?_ ?_);exact gB)|((with_reducible refine br_neg ?_ ?_);exact gB)|(with_reducible(refine br_t ?_ ?_;assumption))|(with_reducible(refine br_f ?_ ?_;assumption))|(with_reducible first|refine br_dec (fun h=>?_) fun h=>?_|refine br_not ?_|refine br_b (fun h=>?_) fun h=>?_)|((with_reducible first|refine wr_i64 rfl ?_ ?_ ?_|refine wr_u64 rfl ?_ ?_ ?_|refine wr_u32 rfl ?_ ?_ ?_);exact gB;exact gB)|(with_reducible first|refine And.intro ?_ ?_|refine True.intro|refine Stp.go ?_)))); (all_goals (conv => whnf))
    exact hK
  · have hlt : i1 < j1 := by
      rcases Nat.lt_or_ge i1 j1 with h9 | h9
      · exact h9
      · have h8 : j1 = i1 := by omega
        rw [h8] at s2d
        have u := s1d (by omega)
        have v := s2d (Nat.le_refl _) (by omega)
        revert u v
        cases Sort.ltInt e[a]! e[i1]! <;> simp
    have nj : i1 < d.size := by omega
    have nj' : i1 < e.size := by omega
    rw [if_neg (by omega)] at ht
    have hi11 : (i1 : Int) + 1 = ((i1 + 1 : Nat) : Int) := by omega
    have hj11 : (j1 : Int) - 1 = ((j1 - 1 : Nat) : Int) := by omega
    (all_goals (repeat' ((conv => whnf); first | (with_reducible first|refine in_nat nj ?_|refine in_nat ni ?_|refine ix_z nj' ?_|refine ix_z ni' ?_)|(refine ix_zw ni' fun z => ?_)|(rw [swp0])|((with_reducible refine sl_full ?_ ?_);exact gA)|((with_reducible refine Ob.intro ?_ ?_);exact gC)|(with_reducible first|refine br_lt ?_|refine br_lf ?_)|((with_reducible refine br_pos ?_ ?_);exact gB)|((with_reducible refine br_neg ?_ ?_);exact gB)|(with_reducible(refine br_t ?_ ?_;assumption))|(with_reducible(refine br_f ?_ ?_;assumption))|(with_reducible first|refine br_dec (fun h=>?_) fun h=>?_|refine br_not ?_|refine br_b (fun h=>?_) fun h=>?_)|((with_reducible first|refine wr_i64 rfl ?_ ?_ ?_|refine wr_u64 rfl ?_ ?_ ?_|refine wr_u32 rfl ?_ ?_ ?_);exact gB;exact gB)|(with_reducible first|refine And.intro ?_ ?_|refine True.intro|refine Stp.go ?_)))); (all_goals (conv => whnf))
    refine ⟨(i1 + 1, j1 - 1, Sort.swp e i1 j1), ⟨by rw [swp_size, hes], by dsimp only; omega, by dsimp only; omega, by dsimp only; omega, ht⟩, by dsimp only; omega, ?_⟩
    dsimp only
    rw [← hi11, ← hj11]
    (refine Le.auto ?_; repeat' ((conv => whnf); first | with_reducible refine And.intro ?_ ?_ | with_reducible exact True.intro | rfl))
end Go.Proofs.YtokmdghjgegclaaGreatDoor

set_option linter.unusedVariables false
set_option linter.unusedSimpArgs false
set_option maxRecDepth 20000
set_option maxHeartbeats 1000000
namespace Go.Proofs.YtokmdghjgegclaaGreatDoor
open Go Go.Vm

theorem shiftDown_size (lt : Int → Int → Bool) : ∀ (j : Nat) (e : Array Int), (Sort.shiftDown lt j e).size = e.size
  | 0, e => rfl
  | j + 1, e => by
    rw [Sort.shiftDown]
    split
    · rfl
    · rw [shiftDown_size lt j, swp_size]
theorem shiftUp_size (lt : Int → Int → Bool) (b : Nat) : ∀ (n j : Nat) (e : Array Int), b - j ≤ n → (Sort.shiftUp lt b j e).size = e.size := by
  intro n
  induction n with
  | zero => intro j e h; rw [Sort.shiftUp, if_neg (by omega)]
  | succ n ih =>
    intro j e h
    rw [Sort.shiftUp]
    split
    · split
      · rfl
      · rw [ih _ _ (by omega), swp_size]
    · rfl
theorem scanSorted_spec' (lt : Int → Int → Bool) (e : Array Int) (b : Nat) : ∀ (n i : Nat), b - i ≤ n → i ≤ Sort.scanSorted lt e b i ∧ (i ≤ b → Sort.scanSorted lt e b i ≤ b) := by
  intro n
  induction n with
  | zero => intro i h; rw [Sort.scanSorted, if_neg (by simp; omega)]; omega
  | succ n ih =>
    intro i h
    rw [Sort.scanSorted]
    split
    · rename_i hc
      have hib : i < b := by simp at hc; exact hc.1
      have := ih (i + 1) (by omega)
      omega
    · omega
/-- slices.partialInsertionSortOrdered -/
theorem csPins (d : Array Int) (a b : Nat) (hab : a < b) (hb : b ≤ d.size) (hsz : d.size < 1000000000000) {K : AV → List Vm.Obj → Prop} (hK : K (.sb (Sort.partialInsertionSort Sort.ltInt d a b).2) [rowZ (Sort.partialInsertionSort Sort.ltInt d a b).1]) :
    ACall Tryz.prog 229 [.os 0 1 0 d.size, .v (.int .i64 a), .v (.int .i64 b)] [rowZ d] K := by
  refine ACall.weak (ofsPins rfl rfl ?_)
  have ha1 : (a : Int) + 1 = ((a + 1 : Nat) : Int) := by omega
  unfold Sort.partialInsertionSort at hK
  (all_goals (repeat' ((conv => whnf); first | ((with_reducible refine sl_full ?_ ?_);exact gA)|((with_reducible refine Ob.intro ?_ ?_);exact gC)|(with_reducible first|refine br_lt ?_|refine br_lf ?_)|((with_reducible refine br_pos ?_ ?_);exact gB)|((with_reducible refine br_neg ?_ ?_);exact gB)|(with_reducible(refine br_t ?_ ?_;assumption))|(with_reducible(refine br_f ?_ ?_;assumption))|(with_reducible first|refine br_dec (fun h=>?_) fun h=>?_|refine br_not ?_|refine br_b (fun h=>?_) fun h=>?_)|((with_reducible first|refine wr_i64 rfl ?_ ?_ ?_|refine wr_u64 rfl ?_ ?_ ?_|refine wr_u32 rfl ?_ ?_ ?_);exact gB;exact gB)|(with_reducible first|refine And.intro ?_ ?_|refine True.intro|refine Stp.go ?_)))); (all_goals (conv => whnf))
  refine Lp.intro (Nat × Nat × Array Int) (fun g => ⟨1, [(0, rowZ g.2.2)], [(0, .os 0 1 0 d.size), (1, .v (.int .i64 a)), (2, .v (.int .i64 b)), (7, .v (.int .i64 g.2.1)), (8, .v (.int .i64 g.1))]⟩)
    (fun g => g.1 ≤ 5 ∧ g.2.2.size = d.size ∧ a < g.2.1 ∧ g.2.1 ≤ b ∧ Sort.partialIns Sort.ltInt a b (5 - g.1) g.2.1 g.2.2 = Sort.partialIns Sort.ltInt a b 5 (a + 1) d) (fun g => 5 - g.1) (0, a + 1, d) ⟨by dsimp only; omega, rfl, by dsimp only; omega, by dsimp only; omega, rfl⟩ ?_ ?_
  · dsimp only
    rw [← ha1]
    (refine Le.auto ?_; repeat' ((conv => whnf); first | with_reducible refine And.intro ?_ ?_ | with_reducible exact True.intro | rfl))
  generalize Sort.partialIns Sort.ltInt a b 5 (a + 1) d = T at *
  rintro ⟨k, i0, e⟩ ⟨hk5, hes, hai0, hib0, ht⟩
  simp only at hk5 hes hai0 hib0 ht ⊢
  rcases Nat.lt_or_ge k 5 with hk | hk
  · obtain ⟨s, hs⟩ : ∃ s, 5 - k = s + 1 := ⟨4 - k, by omega⟩
    rw [hs, Sort.partialIns] at ht
    obtain ⟨i, hi⟩ : ∃ i, i = Sort.scanSorted Sort.ltInt e b i0 := ⟨_, rfl⟩
    have hsp := scanSorted_spec' Sort.ltInt e b _ i0 (Nat.le_refl _)
    rw [← hi] at hsp ht
    obtain ⟨hi1, hi2⟩ := hsp
    have hi2 := hi2 (by omega)
    simp only at ht
    (all_goals (repeat' ((conv => whnf); first | ((with_reducible refine sl_full ?_ ?_);exact gA)|((with_reducible refine Ob.intro ?_ ?_);exact gC)|(with_reducible first|refine br_lt ?_|refine br_lf ?_)|((with_reducible refine br_pos ?_ ?_);exact gB)|((with_reducible refine br_neg ?_ ?_);exact gB)|(with_reducible(refine br_t ?_ ?_;assumption))|(with_reducible(refine br_f ?_ ?_;assumption))|(with_reducible first|refine br_dec (fun h=>?_) fun h=>?_|refine br_not ?_|refine br_b (fun h=>?_) fun h=>?_)|((with_reducible first|refine wr_i64 rfl ?_ ?_ ?_|refine wr_u64 rfl ?_ ?_ ?_|refine wr_u32 rfl ?_ ?_ ?_);exact gB;exact gB)|(with_reducible first|refine And.intro ?_ ?_|refine True.intro|refine Stp.go ?_)))); (all_goals (conv => whnf))
    refine Jn.at ⟨1, [(0, rowZ e)], [(0, .os 0 1 0 d.size), (1, .v (.int .i64 a)), (2, .v (.int .i64 b)), (7, .v (.int .i64 i)), (8, .v (.int .i64 k))]⟩ ?_ ?_
    · rw [hi]
      refine Lp.intro Nat (fun m => ⟨1, [(0, rowZ e)], [(0, .os 0 1 0 d.size), (1, .v (.int .i64 a)), (2, .v (.int .i64 b)), (7, .v (.int .i64 m)), (8, .v (.int .i64 k))]⟩) (fun m => i0 ≤ m ∧ m ≤ b ∧ Sort.scanSorted Sort.ltInt e b m = Sort.scanSorted Sort.ltInt e b i0) (fun m => b - m) i0 ⟨Nat.le_refl _, hib0, rfl⟩ ?_ ?_
      · (refine Le.auto ?_; repeat' ((conv => whnf); first | with_reducible refine And.intro ?_ ?_ | with_reducible exact True.intro | rfl))
      intro m ⟨hm1, hm2, hm3⟩
      rw [Sort.scanSorted] at hm3
      rcases Nat.lt_or_ge m b with hmb | hmb
      · have n1 : m < d.size := by omega
        have n1' : m < e.size := by omega
        have n2' : m - 1 < e.size := by omega
        (all_goals (repeat' ((conv => whnf); first | (with_reducible first|refine csLess _ _ ?_|refine in_nat n1 ?_)|(refine In.intro (m - 1) (by omega) (by omega) ?_)|(with_reducible first|refine ix_z n1' ?_|refine ix_z n2' ?_)|((with_reducible refine sl_full ?_ ?_);exact gA)|((with_reducible refine Ob.intro ?_ ?_);exact gC)|(with_reducible first|refine br_lt ?_|refine br_lf ?_)|((with_reducible refine br_pos ?_ ?_);exact gB)|((with_reducible refine br_neg ?_ ?_);exact gB)|(with_reducible(refine br_t ?_ ?_;assumption))|(with_reducible(refine br_f ?_ ?_;assumption))|(with_reducible first|refine br_dec (fun h=>?_) fun h=>?_|refine br_not ?_|refine br_b (fun h=>?_) fun h=>?_)|((with_reducible first|refine wr_i64 rfl ?_ ?_ ?_|refine wr_u64 rfl ?_ ?_ ?_|refine wr_u32 rfl ?_ ?_ ?_);exact gB;exact gB)|(with_reducible first|refine And.intro ?_ ?_|refine True.intro|refine Stp.go ?_)))); (all_goals (conv => whnf))
        all_goals first
          | (rw [if_pos (by simp [h]; omega)] at hm3
             refine ⟨m + 1, ⟨by omega, by omega, hm3⟩, by omega, ?_⟩
             rw [Int.natCast_add, Int.natCast_one]
             (refine Le.auto ?_; repeat' ((conv => whnf); first | with_reducible refine And.intro ?_ ?_ | with_reducible exact True.intro | rfl)))
          | (rw [if_neg (by simp [h])] at hm3
             refine ⟨(), trivial, ?_⟩
             rw [← hm3]
             (refine Le.auto ?_; repeat' ((conv => whnf); first | with_reducible refine And.intro ?_ ?_ | with_reducible exact True.intro | rfl)))
      · rw [if_neg (by simp; omega)] at hm3
        (all_goals (repeat' ((conv => whnf); first | ((with_reducible refine sl_full ?_ ?_);exact gA)|((with_reducible refine Ob.intro ?_ ?_);exact gC)|(with_reducible first|refine br_lt ?_|refine br_lf ?_)|((with_reducible refine br_pos ?_ ?_);exact gB)|((with_reducible refine br_neg ?_ ?_);exact gB)|(with_reducible(refine br_t ?_ ?_;assumption))|(with_reducible(refine br_f ?_ ?_;assumption))|(with_reducible first|refine br_dec (fun h=>?_) fun h=>?_|refine br_not ?_|refine br_b (fun h=>?_) fun h=>?_)|((with_reducible first|refine wr_i64 rfl ?_ ?_ ?_|refine wr_u64 rfl ?_ ?_ ?_|refine wr_u32 rfl ?_ ?_ ?_);exact gB;exact gB)|(with_reducible first|refine And.intro ?_ ?_|refine True.intro|refine Stp.go ?_)))); (all_goals (conv => whnf))
        refine ⟨(), trivial, ?_⟩
        rw [← hm3]
        (refine Le.auto ?_; repeat' ((conv => whnf); first | with_reducible refine And.intro ?_ ?_ | with_reducible exact True.intro | rfl))
    rcases Nat.lt_or_ge i b with hilt | hilt
    · rw [if_neg (by omega)] at ht
      rcases Nat.lt_or_ge (b - a) 50 with h50 | h50
      · rw [if_pos h50] at ht
        subst ht
        (all_goals (repeat' ((conv => whnf); first | ((with_reducible refine sl_full ?_ ?_);exact gA)|((with_reducible refine Ob.intro ?_ ?_);exact gC)|(with_reducible first|refine br_lt ?_|refine br_lf ?_)|((with_reducible refine br_pos ?_ ?_);exact gB)|((with_reducible refine br_neg ?_ ?_);exact gB)|(with_reducible(refine br_t ?_ ?_;assumption))|(with_reducible(refine br_f ?_ ?_;assumption))|(with_reducible first|refine br_dec (fun h=>?_) fun h=>?_|refine br_not ?_|refine br_b (fun h=>?_) fun h=>?_)|((with_reducible first|refine wr_i64 rfl ?_ ?_ ?_|refine wr_u64 rfl ?_ ?_ ?_|refine wr_u32 rfl ?_ ?_ ?_);exact gB;exact gB)|(with_reducible first|refine And.intro ?_ ?_|refine True.intro|refine Stp.go ?_)))); (all_goals (conv => whnf))
        exact ⟨_, Weak.bool, hK⟩
      · rw [if_neg (by omega)] at ht
        have n1 : i < d.size := by omega
        have n1' : i < e.size := by omega
        have n2' : i - 1 < e.size := by omega
        (all_goals (repeat' ((conv => whnf); first | (with_reducible refine in_nat n1 ?_)|(refine In.intro (i - 1) (by omega) (by omega) ?_)|(with_reducible first|refine ix_z n1' ?_|refine ix_z n2' ?_)|(refine ix_zw n2' fun z => ?_)|(rw [swp0])|((with_reducible refine sl_full ?_ ?_);exact gA)|((with_reducible refine Ob.intro ?_ ?_);exact gC)|(with_reducible first|refine br_lt ?_|refine br_lf ?_)|((with_reducible refine br_pos ?_ ?_);exact gB)|((with_reducible refine br_neg ?_ ?_);exact gB)|(with_reducible(refine br_t ?_ ?_;assumption))|(with_reducible(refine br_f ?_ ?_;assumption))|(with_reducible first|refine br_dec (fun h=>?_) fun h=>?_|refine br_not ?_|refine br_b (fun h=>?_) fun h=>?_)|((with_reducible first|refine wr_i64 rfl ?_ ?_ ?_|refine wr_u64 rfl ?_ ?_ ?_|refine wr_u32 rfl ?_ ?_ ?_);exact gB;exact gB)|(with_reducible first|refine And.intro ?_ ?_|refine True.intro|refine Stp.go ?_)))); (all_goals (conv => whnf))
        obtain ⟨e1, he1⟩ : ∃ e1, e1 = Sort.swp e i (i - 1) := ⟨_, rfl⟩
        have he1s : e1.size = d.size := by rw [he1, swp_size, hes]
        rw [← he1] at ht ⊢
        obtain ⟨e2, he2⟩ : ∃ e2, e2 = if i - a ≥ 2 then Sort.shiftDown Sort.ltInt (i - 1) e1 else e1 := ⟨_, rfl⟩
        have he2s : e2.size = d.size := by
          rw [he2]; split
          · rw [shiftDown_size, he1s]
          · exact he1s
        rw [← he2] at ht
        have fin : ∀ e3, (e3 = if b - i ≥ 2 then Sort.shiftUp Sort.ltInt b (i + 1) e2 else e2) → ∃ g' : Nat × Nat × Array Int, (g'.1 ≤ 5 ∧ g'.2.2.size = d.size ∧ a < g'.2.1 ∧ g'.2.1 ≤ b ∧ Sort.partialIns Sort.ltInt a b (5 - g'.1) g'.2.1 g'.2.2 = T) ∧ 5 - g'.1 < 5 - k ∧ g' = (k + 1, i, e3) := fun e3 h3 => by
          refine ⟨(k + 1, i, e3), ⟨by dsimp only; omega, ?_, by dsimp only; omega, by dsimp only; omega, ?_⟩, by dsimp only; omega, rfl⟩
          · dsimp only
            rw [h3]; split
            · rw [shiftUp_size _ _ _ _ _ (Nat.le_refl _), he2s]
            · exact he2s
          · rw [h3, ← ht]
            congr 1
            omega
        refine Jn.at ⟨1, [(0, rowZ e2)], [(0, .os 0 1 0 d.size), (1, .v (.int .i64 a)), (2, .v (.int .i64 b)), (7, .v (.int .i64 i)), (8, .v (.int .i64 k))]⟩ ?_ ?_
        · have hd1 : decide (2 ≤ (i : Int) - a) = decide (i - a ≥ 2) := by rw [decide_eq_decide]; omega
          rcases Nat.lt_or_ge (i - a) 2 with h2 | h2
          · rw [if_neg (by omega)] at he2
            (all_goals (repeat' ((conv => whnf); first | ((with_reducible refine sl_full ?_ ?_);exact gA)|((with_reducible refine Ob.intro ?_ ?_);exact gC)|(with_reducible first|refine br_lt ?_|refine br_lf ?_)|((with_reducible refine br_pos ?_ ?_);exact gB)|((with_reducible refine br_neg ?_ ?_);exact gB)|(with_reducible(refine br_t ?_ ?_;assumption))|(with_reducible(refine br_f ?_ ?_;assumption))|(with_reducible first|refine br_dec (fun h=>?_) fun h=>?_|refine br_not ?_|refine br_b (fun h=>?_) fun h=>?_)|((with_reducible first|refine wr_i64 rfl ?_ ?_ ?_|refine wr_u64 rfl ?_ ?_ ?_|refine wr_u32 rfl ?_ ?_ ?_);exact gB;exact gB)|(with_reducible first|refine And.intro ?_ ?_|refine True.intro|refine Stp.go ?_)))); (all_goals (conv => whnf))
            refine ⟨(), trivial, ?_⟩
            rw [he2]
            (refine Le.auto ?_; repeat' ((conv => whnf); first | with_reducible refine And.intro ?_ ?_ | with_reducible exact True.intro | rfl))
          · rw [if_pos h2] at he2
            (all_goals (repeat' ((conv => whnf); first | ((with_reducible refine sl_full ?_ ?_);exact gA)|((with_reducible refine Ob.intro ?_ ?_);exact gC)|(with_reducible first|refine br_lt ?_|refine br_lf ?_)|((with_reducible refine br_pos ?_ ?_);exact gB)|((with_reducible refine br_neg ?_ ?_);exact gB)|(with_reducible(refine br_t ?_ ?_;assumption))|(with_reducible(refine br_f ?_ ?_;assumption))|(with_reducible first|refine br_dec (fun h=>?_) fun h=>?_|refine br_not ?_|refine br_b (fun h=>?_) fun h=>?_)|((with_reducible first|refine wr_i64 rfl ?_ ?_ ?_|refine wr_u64 rfl ?_ ?_ ?_|refine wr_u32 rfl ?_ ?_ ?_);exact gB;exact gB)|(with_reducible first|refine And.intro ?_ ?_|refine True.intro|refine Stp.go ?_)))); (all_goals (conv => whnf))
            refine Lp.intro (Nat × Array Int) (fun g => ⟨1, [(0, rowZ g.2)], [(0, .os 0 1 0 d.size), (1, .v (.int .i64 a)), (2, .v (.int .i64 b)), (7, .v (.int .i64 i)), (8, .v (.int .i64 k)), (9, .v (.int .i64 g.1))]⟩) (fun g => g.1 ≤ i ∧ g.2.size = d.size ∧ Sort.shiftDown Sort.ltInt g.1 g.2 = e2) (fun g => g.1) (i - 1, e1) ⟨by dsimp only; omega, he1s, he2.symm⟩ ?_ ?_
            · dsimp only
              rw [Int.natCast_sub (by omega), Int.natCast_one]
              (refine Le.auto ?_; repeat' ((conv => whnf); first | with_reducible refine And.intro ?_ ?_ | with_reducible exact True.intro | rfl))
            rintro ⟨m, f⟩ ⟨hm1, hm2, hm3⟩
            simp only at hm1 hm2 hm3 ⊢
            rcases m with _ | m
            · rw [Sort.shiftDown] at hm3
              subst hm3
              (all_goals (repeat' ((conv => whnf); first | ((with_reducible refine sl_full ?_ ?_);exact gA)|((with_reducible refine Ob.intro ?_ ?_);exact gC)|(with_reducible first|refine br_lt ?_|refine br_lf ?_)|((with_reducible refine br_pos ?_ ?_);exact gB)|((with_reducible refine br_neg ?_ ?_);exact gB)|(with_reducible(refine br_t ?_ ?_;assumption))|(with_reducible(refine br_f ?_ ?_;assumption))|(with_reducible first|refine br_dec (fun h=>?_) fun h=>?_|refine br_not ?_|refine br_b (fun h=>?_) fun h=>?_)|((with_reducible first|refine wr_i64 rfl ?_ ?_ ?_|refine wr_u64 rfl ?_ ?_ ?_|refine wr_u32 rfl ?_ ?_ ?_);exact gB;exact gB)|(with_reducible first|refine And.intro ?_ ?_|refine True.intro|refine Stp.go ?_)))); (all_goals (conv => whnf))
              refine ⟨(), trivial, ?_⟩
              (refine Le.auto ?_; repeat' ((conv => whnf); first | with_reducible refine And.intro ?_ ?_ | with_reducible exact True.intro | rfl))
            · rw [Sort.shiftDown] at hm3
              have m1 : m + 1 < d.size := by omega
              have m1' : m + 1 < f.size := by omega
              have m2 : m < d.size := by omega
              have m2' : m < f.size := by omega
              have hmm : ((m + 1 : Nat) : Int) - 1 = (m : Nat) := by omega
              (all_goals (repeat' ((conv => whnf); first | (with_reducible first|refine csLess _ _ ?_|refine in_nat m1 ?_|refine In.intro m hmm m2 ?_|refine ix_z m1' ?_|refine ix_z m2' ?_|refine ix_zs (Nat.succ_ne_self m) m2' ?_)|((with_reducible refine sl_full ?_ ?_);exact gA)|((with_reducible refine Ob.intro ?_ ?_);exact gC)|(with_reducible first|refine br_lt ?_|refine br_lf ?_)|((with_reducible refine br_pos ?_ ?_);exact gB)|((with_reducible refine br_neg ?_ ?_);exact gB)|(with_reducible(refine br_t ?_ ?_;assumption))|(with_reducible(refine br_f ?_ ?_;assumption))|(with_reducible first|refine br_dec (fun h=>?_) fun h=>?_|refine br_not ?_|refine br_b (fun h=>?_) fun h=>?_)|((with_reducible first|refine wr_i64 rfl ?_ ?_ ?_|refine wr_u64 rfl ?_ ?_ ?_|refine wr_u32 rfl ?_ ?_ ?_);exact gB;exact gB)|(with_reducible first|refine And.intro ?_ ?_|refine True.intro|refine Stp.go ?_)))); (all_goals (conv => whnf))
              all_goals first
                | (rw [if_pos (by simp [h])] at hm3
                   subst hm3
                   refine ⟨(), trivial, ?_⟩
                   (refine Le.auto ?_; repeat' ((conv => whnf); first | with_reducible refine And.intro ?_ ?_ | with_reducible exact True.intro | rfl)))
                | (rw [if_neg (by simp [h])] at hm3
                   refine ⟨(m, Sort.swp f (m + 1) m), ⟨by dsimp only; omega, by rw [swp_size, hm2], hm3⟩, by dsimp only; omega, ?_⟩
                   dsimp only
                   rw [hmm, swp0]
                   (refine Le.auto ?_; repeat' ((conv => whnf); first | with_reducible refine And.intro ?_ ?_ | with_reducible exact True.intro | rfl)))
        rcases Nat.lt_or_ge (b - i) 2 with h2 | h2
        · obtain ⟨g', h1, h2, rfl⟩ := fin e2 (by rw [if_neg (by omega)])
          (all_goals (repeat' ((conv => whnf); first | ((with_reducible refine sl_full ?_ ?_);exact gA)|((with_reducible refine Ob.intro ?_ ?_);exact gC)|(with_reducible first|refine br_lt ?_|refine br_lf ?_)|((with_reducible refine br_pos ?_ ?_);exact gB)|((with_reducible refine br_neg ?_ ?_);exact gB)|(with_reducible(refine br_t ?_ ?_;assumption))|(with_reducible(refine br_f ?_ ?_;assumption))|(with_reducible first|refine br_dec (fun h=>?_) fun h=>?_|refine br_not ?_|refine br_b (fun h=>?_) fun h=>?_)|((with_reducible first|refine wr_i64 rfl ?_ ?_ ?_|refine wr_u64 rfl ?_ ?_ ?_|refine wr_u32 rfl ?_ ?_ ?_);exact gB;exact gB)|(with_reducible first|refine And.intro ?_ ?_|refine True.intro|refine Stp.go ?_)))); (all_goals (conv => whnf))
          refine ⟨_, h1, h2, ?_⟩
          dsimp only
          rw [Int.natCast_add, Int.natCast_one]
          (refine Le.auto ?_; repeat' ((conv => whnf); first | with_reducible refine And.intro ?_ ?_ | with_reducible exact True.intro | rfl))
        · (all_goals (repeat' ((conv => whnf); first | ((with_reducible refine sl_full ?_ ?_);exact gA)|((with_reducible refine Ob.intro ?_ ?_);exact gC)|(with_reducible first|refine br_lt ?_|refine br_lf ?_)|((with_reducible refine br_pos ?_ ?_);exact gB)|((with_reducible refine br_neg ?_ ?_);exact gB)|(with_reducible(refine br_t ?_ ?_;assumption))|(with_reducible(refine br_f ?_ ?_;assumption))|(with_reducible first|refine br_dec (fun h=>?_) fun h=>?_|refine br_not ?_|refine br_b (fun h=>?_) fun h=>?_)|((with_reducible first|refine wr_i64 rfl ?_ ?_ ?_|refine wr_u64 rfl ?_ ?_ ?_|refine wr_u32 rfl ?_ ?_ ?_);exact gB;exact gB)|(with_reducible first|refine And.intro ?_ ?_|refine True.intro|refine Stp.go ?_)))); (all_goals (conv => whnf))
          refine Lp.intro (Nat × Array Int) (fun g => ⟨1, [(0, rowZ g.2)], [(0, .os 0 1 0 d.size), (1, .v (.int .i64 a)), (2, .v (.int .i64 b)), (7, .v (.int .i64 i)), (8, .v (.int .i64 k)), (10, .v (.int .i64 g.1))]⟩) (fun g => i + 1 ≤ g.1 ∧ g.1 ≤ b ∧ g.2.size = d.size ∧ Sort.shiftUp Sort.ltInt b g.1 g.2 = Sort.shiftUp Sort.ltInt b (i + 1) e2) (fun g => b - g.1) (i + 1, e2) ⟨by dsimp only; omega, by dsimp only; omega, he2s, rfl⟩ ?_ ?_
          · dsimp only
            rw [Int.natCast_add, Int.natCast_one]
            (refine Le.auto ?_; repeat' ((conv => whnf); first | with_reducible refine And.intro ?_ ?_ | with_reducible exact True.intro | rfl))
          rintro ⟨m, f⟩ ⟨hm0, hm1, hm2, hm3⟩
          simp only at hm0 hm1 hm2 hm3 ⊢
          rw [Sort.shiftUp] at hm3
          rcases Nat.lt_or_ge m b with hmb | hmb
          · rw [if_pos hmb] at hm3
            have m1 : m < d.size := by omega
            have m1' : m < f.size := by omega
            have m2' : m - 1 < f.size := by omega
            (all_goals (repeat' ((conv => whnf); first | (with_reducible first|refine csLess _ _ ?_|refine in_nat m1 ?_)|(refine In.intro (m - 1) (by omega) (by omega) ?_)|(with_reducible first|refine ix_z m1' ?_|refine ix_z m2' ?_)|(refine ix_zw m2' fun z => ?_)|((with_reducible refine sl_full ?_ ?_);exact gA)|((with_reducible refine Ob.intro ?_ ?_);exact gC)|(with_reducible first|refine br_lt ?_|refine br_lf ?_)|((with_reducible refine br_pos ?_ ?_);exact gB)|((with_reducible refine br_neg ?_ ?_);exact gB)|(with_reducible(refine br_t ?_ ?_;assumption))|(with_reducible(refine br_f ?_ ?_;assumption))|(with_reducible first|refine br_dec (fun h=>?_) fun h=>?_|refine br_not ?_|refine br_b (fun h=>?_) fun h=>?_)|((with_reducible first|refine wr_i64 rfl ?_ ?_ ?_|refine wr_u64 rfl ?_ ?_ ?_|refine wr_u32 rfl ?_ ?_ ?_);exact gB;exact gB)|(with_reducible first|refine And.intro ?_ ?_|refine True.intro|refine Stp.go ?_)))); (all_goals (conv => whnf))
            all_goals first
              | (rw [if_pos (by simp [h])] at hm3
                 obtain ⟨g', h1, h2, rfl⟩ := fin f (by rw [if_pos (by omega), hm3])
                 refine ⟨_, h1, h2, ?_⟩
                 dsimp only
                 rw [Int.natCast_add, Int.natCast_one]
                 (refine Le.auto ?_; repeat' ((conv => whnf); first | with_reducible refine And.intro ?_ ?_ | with_reducible exact True.intro | rfl)))
              | (rw [if_neg (by simp [h])] at hm3
                 refine ⟨(m + 1, Sort.swp f m (m - 1)), ⟨by dsimp only; omega, by dsimp only; omega, by rw [swp_size, hm2], hm3⟩, by dsimp only; omega, ?_⟩
                 dsimp only
                 rw [Int.natCast_add, Int.natCast_one, swp0]
                 (refine Le.auto ?_; repeat' ((conv => whnf); first | with_reducible refine And.intro ?_ ?_ | with_reducible exact True.intro | rfl)))
          · rw [if_neg (by omega)] at hm3
            obtain ⟨g', h1, h2, rfl⟩ := fin f (by rw [if_pos (by omega), hm3])
            (all_goals (repeat' ((conv => whnf); first | ((with_reducible refine sl_full ?_ ?_);exact gA)|((with_reducible refine Ob.intro ?_ ?_);exact gC)|(with_reducible first|refine br_lt ?_|refine br_lf ?_)|((with_reducible refine br_pos ?_ ?_);exact gB)|((with_reducible refine br_neg ?_ ?_);exact gB)|(with_reducible(refine br_t ?_ ?_;assumption))|(with_reducible(refine br_f ?_ ?_;assumption))|(with_reducible first|refine br_dec (fun h=>?_) fun h=>?_|refine br_not ?_|refine br_b (fun h=>?_) fun h=>?_)|((with_reducible first|refine wr_i64 rfl ?_ ?_ ?_|refine wr_u64 rfl ?_ ?_ ?_|refine wr_u32 rfl ?_ ?_ ?_);exact gB;exact gB)|(with_reducible first|refine And.intro ?_ ?_|refine True.intro|refine Stp.go ?_)))); (all_goals (conv => whnf))
            refine ⟨_, h1, h2, ?_⟩
            dsimp only
            rw [Int.natCast_add, Int.natCast_one]
            (refine Le.auto ?_; repeat' ((conv => whnf); first | with_reducible refine And.intro ?_ ?_ | with_reducible exact True.intro | rfl))
    · rw [if_pos (by omega)] at ht
      subst ht
      (all_goals (repeat' ((conv => whnf); first | ((with_reducible refine sl_full ?_ ?_);exact gA)|((with_reducible refine Ob.intro ?_ ?_);exact gC)|(with_reducible first|refine br_lt ?_|refine br_lf ?_)|((with_reducible refine br_pos ?_ ?_);exact gB)|((with_reducible refine br_neg ?_ ?_);exact gB)|(with_reducible(refine br_t ?_ ?_;assumption))|(with_reducible(refine br_f ?_ ?_;assumption))|(with_reducible first|refine br_dec (fun h=>?_) fun h=>?_|refine br_not ?_|refine br_b (fun h=>?_) fun h=>?_)|((with_reducible first|refine wr_i64 rfl ?_ ?_ ?_|refine wr_u64 rfl ?_ ?_ ?_|refine wr_u32 rfl ?_ ?_ ?_);exact gB;exact gB)|(with_reducible first|refine And.intro ?_ ?_|refine True.intro|refine Stp.go ?_)))); (all_goals (conv => whnf))
      exact ⟨_, Weak.bool, hK⟩
  · have : k = 5 := by omega
    subst this
    simp only [Nat.sub_self, Sort.partialIns] at ht
    subst ht
    (all_goals (repeat' ((conv => whnf); first | ((with_reducible refine sl_full ?_ ?_);exact gA)|((with_reducible refine Ob.intro ?_ ?_);exact gC)|(with_reducible first|refine br_lt ?_|refine br_lf ?_)|((with_reducible refine br_pos ?_ ?_);exact gB)|((with_reducible refine br_neg ?_ ?_);exact gB)|(with_reducible(refine br_t ?_ ?_;assumption))|(with_reducible(refine br_f ?_ ?_;assumption))|(with_reducible first|refine br_dec (fun h=>?_) fun h=>?_|refine br_not ?_|refine br_b (fun h=>?_) fun h=>?_)|((with_reducible first|refine wr_i64 rfl ?_ ?_ ?_|refine wr_u64 rfl ?_ ?_ ?_|refine wr_u32 rfl ?_ ?_ ?_);exact gB;exact gB)|(with_reducible first|refine And.intro ?_ ?_|refine True.intro|refine Stp.go ?_)))); (all_goals (conv => whnf))
    exact ⟨_, Weak.bool, hK⟩
end Go.Proofs.YtokmdghjgegclaaGreatDoor

set_option linter.unusedVariables false
set_option linter.unusedSimpArgs false
set_option maxRecDepth 20000
set_option maxHeartbeats 1000000
namespace Go.Proofs.YtokmdghjgegclaaGreatDoor
open Go Go.Vm

noncomputable abbrev cntO (s : Int) : Vm.Obj := .box [.v (.int .i64 s)]
/-- slices.order2Ordered -/
theorem csOrd2 (d : Array Int) (a b : Nat) (s : Int) (ha : a < d.size) (hb : b < d.size) (hs0 : 0 ≤ s) (hs : s ≤ 1000) {K : AV → List Vm.Obj → Prop}
    (hK : ∀ (x y : Nat) (s' : Int), (x = a ∧ y = b ∨ x = b ∧ y = a) → s ≤ s' → s' ≤ s + 1 → K (.tup [.v (.int .i64 x), .v (.int .i64 y)]) [rowZ d, cntO s']) :
    ACall Tryz.prog 241 [.os 0 1 0 d.size, .v (.int .i64 a), .v (.int .i64 b), .op 1 0] [rowZ d, cntO s] K := by
  refine ofsOrd2 rfl rfl ?_
  (all_goals (repeat' ((conv => whnf); first | (with_reducible first|refine csLess _ _ ?_|refine in_nat ha ?_|refine in_nat hb ?_|refine ix_z ha ?_|refine ix_z hb ?_)|((with_reducible refine sl_full ?_ ?_);exact gA)|((with_reducible refine Ob.intro ?_ ?_);exact gC)|(with_reducible first|refine br_lt ?_|refine br_lf ?_)|((with_reducible refine br_pos ?_ ?_);exact gB)|((with_reducible refine br_neg ?_ ?_);exact gB)|(with_reducible(refine br_t ?_ ?_;assumption))|(with_reducible(refine br_f ?_ ?_;assumption))|(with_reducible first|refine br_dec (fun h=>?_) fun h=>?_|refine br_not ?_|refine br_b (fun h=>?_) fun h=>?_)|((with_reducible first|refine wr_i64 rfl ?_ ?_ ?_|refine wr_u64 rfl ?_ ?_ ?_|refine wr_u32 rfl ?_ ?_ ?_);exact gB;exact gB)|(with_reducible first|refine And.intro ?_ ?_|refine True.intro|refine Stp.go ?_)))); (all_goals (conv => whnf))
  · exact hK b a (s + 1) (.inr ⟨rfl, rfl⟩) (by omega) (Int.le_refl _)
  · exact hK a b s (.inl ⟨rfl, rfl⟩) (Int.le_refl _) (by omega)
/-- slices.medianOrdered -/
theorem csMed (d : Array Int) (a b c : Nat) (s : Int) (ha : a < d.size) (hb : b < d.size) (hc : c < d.size) (hs0 : 0 ≤ s) (hs : s ≤ 900) {K : AV → List Vm.Obj → Prop}
    (hK : ∀ (m : Nat) (s' : Int), (m = a ∨ m = b ∨ m = c) → s ≤ s' → s' ≤ s + 3 → K (.v (.int .i64 m)) [rowZ d, cntO s']) :
    ACall Tryz.prog 239 [.os 0 1 0 d.size, .v (.int .i64 a), .v (.int .i64 b), .v (.int .i64 c), .op 1 0] [rowZ d, cntO s] K := by
  refine ofsMed rfl rfl ?_
  (all_goals (repeat' ((conv => whnf); first | ((with_reducible refine sl_full ?_ ?_);exact gA)|((with_reducible refine Ob.intro ?_ ?_);exact gC)|(with_reducible first|refine br_lt ?_|refine br_lf ?_)|((with_reducible refine br_pos ?_ ?_);exact gB)|((with_reducible refine br_neg ?_ ?_);exact gB)|(with_reducible(refine br_t ?_ ?_;assumption))|(with_reducible(refine br_f ?_ ?_;assumption))|(with_reducible first|refine br_dec (fun h=>?_) fun h=>?_|refine br_not ?_|refine br_b (fun h=>?_) fun h=>?_)|((with_reducible first|refine wr_i64 rfl ?_ ?_ ?_|refine wr_u64 rfl ?_ ?_ ?_|refine wr_u32 rfl ?_ ?_ ?_);exact gB;exact gB)|(with_reducible first|refine And.intro ?_ ?_|refine True.intro|refine Stp.go ?_)))); (all_goals (conv => whnf))
  refine csOrd2 d a b s ha hb hs0 (by omega) fun x1 y1 s1 h1 l1 u1 => ?_
  have hx1 : x1 < d.size := by omega
  have hy1 : y1 < d.size := by omega
  (all_goals (repeat' ((conv => whnf); first | ((with_reducible refine sl_full ?_ ?_);exact gA)|((with_reducible refine Ob.intro ?_ ?_);exact gC)|(with_reducible first|refine br_lt ?_|refine br_lf ?_)|((with_reducible refine br_pos ?_ ?_);exact gB)|((with_reducible refine br_neg ?_ ?_);exact gB)|(with_reducible(refine br_t ?_ ?_;assumption))|(with_reducible(refine br_f ?_ ?_;assumption))|(with_reducible first|refine br_dec (fun h=>?_) fun h=>?_|refine br_not ?_|refine br_b (fun h=>?_) fun h=>?_)|((with_reducible first|refine wr_i64 rfl ?_ ?_ ?_|refine wr_u64 rfl ?_ ?_ ?_|refine wr_u32 rfl ?_ ?_ ?_);exact gB;exact gB)|(with_reducible first|refine And.intro ?_ ?_|refine True.intro|refine Stp.go ?_)))); (all_goals (conv => whnf))
  refine csOrd2 d y1 c s1 hy1 hc (by omega) (by omega) fun x2 y2 s2 h2 l2 u2 => ?_
  have hx2 : x2 < d.size := by omega
  (all_goals (repeat' ((conv => whnf); first | ((with_reducible refine sl_full ?_ ?_);exact gA)|((with_reducible refine Ob.intro ?_ ?_);exact gC)|(with_reducible first|refine br_lt ?_|refine br_lf ?_)|((with_reducible refine br_pos ?_ ?_);exact gB)|((with_reducible refine br_neg ?_ ?_);exact gB)|(with_reducible(refine br_t ?_ ?_;assumption))|(with_reducible(refine br_f ?_ ?_;assumption))|(with_reducible first|refine br_dec (fun h=>?_) fun h=>?_|refine br_not ?_|refine br_b (fun h=>?_) fun h=>?_)|((with_reducible first|refine wr_i64 rfl ?_ ?_ ?_|refine wr_u64 rfl ?_ ?_ ?_|refine wr_u32 rfl ?_ ?_ ?_);exact gB;exact gB)|(with_reducible first|refine And.intro ?_ ?_|refine True.intro|refine Stp.go ?_)))); (all_goals (conv => whnf))
  refine csOrd2 d x1 x2 s2 hx1 hx2 (by omega) (by omega) fun x3 y3 s3 h3 l3 u3 => ?_
  (all_goals (repeat' ((conv => whnf); first | ((with_reducible refine sl_full ?_ ?_);exact gA)|((with_reducible refine Ob.intro ?_ ?_);exact gC)|(with_reducible first|refine br_lt ?_|refine br_lf ?_)|((with_reducible refine br_pos ?_ ?_);exact gB)|((with_reducible refine br_neg ?_ ?_);exact gB)|(with_reducible(refine br_t ?_ ?_;assumption))|(with_reducible(refine br_f ?_ ?_;assumption))|(with_reducible first|refine br_dec (fun h=>?_) fun h=>?_|refine br_not ?_|refine br_b (fun h=>?_) fun h=>?_)|((with_reducible first|refine wr_i64 rfl ?_ ?_ ?_|refine wr_u64 rfl ?_ ?_ ?_|refine wr_u32 rfl ?_ ?_ ?_);exact gB;exact gB)|(with_reducible first|refine And.intro ?_ ?_|refine True.intro|refine Stp.go ?_)))); (all_goals (conv => whnf))
  exact hK y3 s3 (by omega) (by omega) (by omega)
/-- slices.medianAdjacentOrdered -/
theorem csMedA (d : Array Int) (a : Nat) (s : Int) (ha0 : 1 ≤ a) (ha : a + 1 < d.size) (hsz : d.size < 1000000000000) (hs0 : 0 ≤ s) (hs : s ≤ 900) {K : AV → List Vm.Obj → Prop}
    (hK : ∀ (m : Nat) (s' : Int), a ≤ m + 1 → m ≤ a + 1 → s ≤ s' → s' ≤ s + 3 → K (.v (.int .i64 m)) [rowZ d, cntO s']) :
    ACall Tryz.prog 238 [.os 0 1 0 d.size, .v (.int .i64 a), .op 1 0] [rowZ d, cntO s] K := by
  refine ofsMedA rfl rfl ?_
  have e1 : (a : Int) - 1 = ((a - 1 : Nat) : Int) := by omega
  have e2 : (a : Int) + 1 = ((a + 1 : Nat) : Int) := by omega
  (all_goals (repeat' ((conv => whnf); first | ((with_reducible refine sl_full ?_ ?_);exact gA)|((with_reducible refine Ob.intro ?_ ?_);exact gC)|(with_reducible first|refine br_lt ?_|refine br_lf ?_)|((with_reducible refine br_pos ?_ ?_);exact gB)|((with_reducible refine br_neg ?_ ?_);exact gB)|(with_reducible(refine br_t ?_ ?_;assumption))|(with_reducible(refine br_f ?_ ?_;assumption))|(with_reducible first|refine br_dec (fun h=>?_) fun h=>?_|refine br_not ?_|refine br_b (fun h=>?_) fun h=>?_)|((with_reducible first|refine wr_i64 rfl ?_ ?_ ?_|refine wr_u64 rfl ?_ ?_ ?_|refine wr_u32 rfl ?_ ?_ ?_);exact gB;exact gB)|(with_reducible first|refine And.intro ?_ ?_|refine True.intro|refine Stp.go ?_)))); (all_goals (conv => whnf))
  rw [e1, e2]
  refine csMed d (a - 1) a (a + 1) s (by omega) (by omega) (by omega) hs0 hs fun m s' h l u => ?_
  (all_goals (repeat' ((conv => whnf); first | ((with_reducible refine sl_full ?_ ?_);exact gA)|((with_reducible refine Ob.intro ?_ ?_);exact gC)|(with_reducible first|refine br_lt ?_|refine br_lf ?_)|((with_reducible refine br_pos ?_ ?_);exact gB)|((with_reducible refine br_neg ?_ ?_);exact gB)|(with_reducible(refine br_t ?_ ?_;assumption))|(with_reducible(refine br_f ?_ ?_;assumption))|(with_reducible first|refine br_dec (fun h=>?_) fun h=>?_|refine br_not ?_|refine br_b (fun h=>?_) fun h=>?_)|((with_reducible first|refine wr_i64 rfl ?_ ?_ ?_|refine wr_u64 rfl ?_ ?_ ?_|refine wr_u32 rfl ?_ ?_ ?_);exact gB;exact gB)|(with_reducible first|refine And.intro ?_ ?_|refine True.intro|refine Stp.go ?_)))); (all_goals (conv => whnf))
  exact hK m s' (by omega) (by omega) l u
/-- slices.choosePivotOrdered -/
theorem csPiv (d : Array Int) (a b : Nat) (hab : a < b) (hb : b ≤ d.size) (hsz : d.size < 1000000000000) {K : AV → List Vm.Obj → Prop}
    (hK : ∀ (p : Nat) (h : Int), a ≤ p → p < b → K (.tup [.v (.int .i64 p), .v (.int .i64 h)]) [rowZ d]) :
    ACall Tryz.prog 227 [.os 0 1 0 d.size, .v (.int .i64 a), .v (.int .i64 b)] [rowZ d] K := by
  refine ofsPiv rfl rfl ?_
  have q0 : ((b : Int) - a).tdiv 4 = (((b - a) / 4 : Nat) : Int) := by rw [Int.tdiv_eq_ediv_of_nonneg (by omega)]; omega
  have hw : ∀ {K : Int → Prop}, K (((b - a) / 4 : Nat) : Int) → Wr .i64 (((b : Int) - a).tdiv 4) K := fun h => wr_i64 q0 (by omega) (by omega) h
  (all_goals (repeat' ((conv => whnf); first | (with_reducible refine hw ?_)|((with_reducible refine sl_full ?_ ?_);exact gA)|((with_reducible refine Ob.intro ?_ ?_);exact gC)|(with_reducible first|refine br_lt ?_|refine br_lf ?_)|((with_reducible refine br_pos ?_ ?_);exact gB)|((with_reducible refine br_neg ?_ ?_);exact gB)|(with_reducible(refine br_t ?_ ?_;assumption))|(with_reducible(refine br_f ?_ ?_;assumption))|(with_reducible first|refine br_dec (fun h=>?_) fun h=>?_|refine br_not ?_|refine br_b (fun h=>?_) fun h=>?_)|((with_reducible first|refine wr_i64 rfl ?_ ?_ ?_|refine wr_u64 rfl ?_ ?_ ?_|refine wr_u32 rfl ?_ ?_ ?_);exact gB;exact gB)|(with_reducible first|refine And.intro ?_ ?_|refine True.intro|refine Stp.go ?_)))); (all_goals (conv => whnf))
  all_goals
    have hq1 : 4 * ((b - a) / 4) ≤ b - a := by omega
    have hq2 : b - a < 4 * ((b - a) / 4) + 4 := by omega
    clear hw q0
    generalize (b - a) / 4 = q at *
    have e1 : (a : Int) + (q : Int) * 1 = ((a + q : Nat) : Int) := by omega
    have e2 : (a : Int) + (q : Int) * 2 = ((a + 2 * q : Nat) : Int) := by omega
    have e3 : (a : Int) + (q : Int) * 3 = ((a + 3 * q : Nat) : Int) := by omega
    rw [e2]
  · rw [e1]
    refine csMedA d (a + q) 0 (by omega) (by omega) hsz (by omega) (by omega) fun i s1 hi1 hi2 l1 u1 => ?_
    (all_goals (repeat' ((conv => whnf); first | ((with_reducible refine sl_full ?_ ?_);exact gA)|((with_reducible refine Ob.intro ?_ ?_);exact gC)|(with_reducible first|refine br_lt ?_|refine br_lf ?_)|((with_reducible refine br_pos ?_ ?_);exact gB)|((with_reducible refine br_neg ?_ ?_);exact gB)|(with_reducible(refine br_t ?_ ?_;assumption))|(with_reducible(refine br_f ?_ ?_;assumption))|(with_reducible first|refine br_dec (fun h=>?_) fun h=>?_|refine br_not ?_|refine br_b (fun h=>?_) fun h=>?_)|((with_reducible first|refine wr_i64 rfl ?_ ?_ ?_|refine wr_u64 rfl ?_ ?_ ?_|refine wr_u32 rfl ?_ ?_ ?_);exact gB;exact gB)|(with_reducible first|refine And.intro ?_ ?_|refine True.intro|refine Stp.go ?_)))); (all_goals (conv => whnf))
    refine csMedA d (a + 2 * q) s1 (by omega) (by omega) hsz (by omega) (by omega) fun j s2 hj1 hj2 l2 u2 => ?_
    (all_goals (repeat' ((conv => whnf); first | ((with_reducible refine sl_full ?_ ?_);exact gA)|((with_reducible refine Ob.intro ?_ ?_);exact gC)|(with_reducible first|refine br_lt ?_|refine br_lf ?_)|((with_reducible refine br_pos ?_ ?_);exact gB)|((with_reducible refine br_neg ?_ ?_);exact gB)|(with_reducible(refine br_t ?_ ?_;assumption))|(with_reducible(refine br_f ?_ ?_;assumption))|(with_reducible first|refine br_dec (fun h=>?_) fun h=>?_|refine br_not ?_|refine br_b (fun h=>?_) fun h=>?_)|((with_reducible first|refine wr_i64 rfl ?_ ?_ ?_|refine wr_u64 rfl ?_ ?_ ?_|refine wr_u32 rfl ?_ ?_ ?_);exact gB;exact gB)|(with_reducible first|refine And.intro ?_ ?_|refine True.intro|refine Stp.go ?_)))); (all_goals (conv => whnf))
    rw [e3]
    refine csMedA d (a + 3 * q) s2 (by omega) (by omega) hsz (by omega) (by omega) fun k s3 hk1 hk2 l3 u3 => ?_
    (all_goals (repeat' ((conv => whnf); first | ((with_reducible refine sl_full ?_ ?_);exact gA)|((with_reducible refine Ob.intro ?_ ?_);exact gC)|(with_reducible first|refine br_lt ?_|refine br_lf ?_)|((with_reducible refine br_pos ?_ ?_);exact gB)|((with_reducible refine br_neg ?_ ?_);exact gB)|(with_reducible(refine br_t ?_ ?_;assumption))|(with_reducible(refine br_f ?_ ?_;assumption))|(with_reducible first|refine br_dec (fun h=>?_) fun h=>?_|refine br_not ?_|refine br_b (fun h=>?_) fun h=>?_)|((with_reducible first|refine wr_i64 rfl ?_ ?_ ?_|refine wr_u64 rfl ?_ ?_ ?_|refine wr_u32 rfl ?_ ?_ ?_);exact gB;exact gB)|(with_reducible first|refine And.intro ?_ ?_|refine True.intro|refine Stp.go ?_)))); (all_goals (conv => whnf))
    refine csMed d i j k s3 (by omega) (by omega) (by omega) (by omega) (by omega) fun m s4 hm l4 u4 => ?_
    (all_goals (repeat' ((conv => whnf); first | ((with_reducible refine sl_full ?_ ?_);exact gA)|((with_reducible refine Ob.intro ?_ ?_);exact gC)|(with_reducible first|refine br_lt ?_|refine br_lf ?_)|((with_reducible refine br_pos ?_ ?_);exact gB)|((with_reducible refine br_neg ?_ ?_);exact gB)|(with_reducible(refine br_t ?_ ?_;assumption))|(with_reducible(refine br_f ?_ ?_;assumption))|(with_reducible first|refine br_dec (fun h=>?_) fun h=>?_|refine br_not ?_|refine br_b (fun h=>?_) fun h=>?_)|((with_reducible first|refine wr_i64 rfl ?_ ?_ ?_|refine wr_u64 rfl ?_ ?_ ?_|refine wr_u32 rfl ?_ ?_ ?_);exact gB;exact gB)|(with_reducible first|refine And.intro ?_ ?_|refine True.intro|refine Stp.go ?_)))); (all_goals (conv => whnf))
    all_goals exact hK m _ (by omega) (by omega)
  · rw [e1, e3]
    refine csMed d (a + q) (a + 2 * q) (a + 3 * q) 0 (by omega) (by omega) (by omega) (by omega) (by omega) fun m s4 hm l4 u4 => ?_
    (all_goals (repeat' ((conv => whnf); first | ((with_reducible refine sl_full ?_ ?_);exact gA)|((with_reducible refine Ob.intro ?_ ?_);exact gC)|(with_reducible first|refine br_lt ?_|refine br_lf ?_)|((with_reducible refine br_pos ?_ ?_);exact gB)|((with_reducible refine br_neg ?_ ?_);exact gB)|(with_reducible(refine br_t ?_ ?_;assumption))|(with_reducible(refine br_f ?_ ?_;assumption))|(with_reducible first|refine br_dec (fun h=>?_) fun h=>?_|refine br_not ?_|refine br_b (fun h=>?_) fun h=>?_)|((with_reducible first|refine wr_i64 rfl ?_ ?_ ?_|refine wr_u64 rfl ?_ ?_ ?_|refine wr_u32 rfl ?_ ?_ ?_);exact gB;exact gB)|(with_reducible first|refine And.intro ?_ ?_|refine True.intro|refine Stp.go ?_)))); (all_goals (conv => whnf))
    all_goals exact hK m _ (by omega) (by omega)
  · exact hK _ _ (by omega) (by omega)
end Go.Proofs.YtokmdghjgegclaaGreatDoor

