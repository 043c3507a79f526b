/- The functions of the seat as the machine takes them: contexts, bodies, contracts out of the code. Printed by gsctx.py. The functions of the seat as the machine takes them: contexts, bodies, contracts out of the code. Printed by gsctx.py. Plain law: blocks are counted (what fits). Plain law: the order of service; what fits. The reference's blocks and prefixes of a range. The reference's free addresses and its lowest block. The reference's keep, Subtract and free: the list is handed out as own memory. The reference's free prefixes; lists of prefixes compared. nsgref12.Fits. nsgref12.Plan. nsglaw12.plans: all functions compared. -/
import Derived.Test.YtgcplfplbcpemaaGreatProg
import Derived.Test.YtgcplfplbcpemaaGreatM12
set_option linter.unusedVariables false
set_option maxRecDepth 20000
namespace Go.Proofs.YtgcplfplbcpemaaGreat
open Go Go.Vm

/-- netsegment/nsgref1.Blocks -/
noncomputable def grBlocks : Ctx := { N := 71, np := 0, own := fun _ => false, plan := fun i => match Nat.beq i 4 with | true => some (lin [(0, true), (1, true), (2, true), (3, true), (4, true), (5, true), (6, true), (7, true), (8, true)]) | false => none, hints := fun i => match Nat.beq i 4 with | true => [.virt 5 2] | false => [], cut := fun _ => false }
noncomputable def brBlocks : Code := match Tryz.f64.body with | some c => c | none => .skip
theorem ofrBlocks {args : List AV} {hs : List Vm.Obj} {K : AV → List Vm.Obj → Prop} (hp : Nat.beq grBlocks.np hs.length = true) (ha : Nat.ble args.length 71 = true) (hq : initQ hs args fun σ => codeQ Tryz.prog grBlocks brBlocks σ (retQ Tryz.prog grBlocks Tryz.f64.results.toList K)) : ACall Tryz.prog 64 args hs K :=
  ACall.of_code (Γ := grBlocks) Tryz.func64 (by kernel_rfl) (by kernel_rfl) (by kernel_rfl) (by kernel_rfl) (Nat.eq_of_beq_eq_true hp) ha hq
/-- netsegment/nsgref1.Split -/
noncomputable def grSplit : Ctx := { N := 45, np := 0, own := fun _ => false, plan := fun i => match Nat.beq i 7 with | true => some (lin [(0, true), (2, true), (3, true), (4, true), (5, true), (6, true), (7, true), (8, true), (9, true), (10, true), (11, true), (12, true), (13, true), (14, true), (15, true), (1, false), (16, true)]) | false => none, hints := fun i => match Nat.beq i 2 with | true => [.virt 3 2] | false => [], cut := fun _ => false }
noncomputable def brSplit : Code := match Tryz.f38.body with | some c => c | none => .skip
theorem ofrSplit {args : List AV} {hs : List Vm.Obj} {K : AV → List Vm.Obj → Prop} (hp : Nat.beq grSplit.np hs.length = true) (ha : Nat.ble args.length 45 = true) (hq : initQ hs args fun σ => codeQ Tryz.prog grSplit brSplit σ (retQ Tryz.prog grSplit Tryz.f38.results.toList K)) : ACall Tryz.prog 38 args hs K :=
  ACall.of_code (Γ := grSplit) Tryz.func38 (by kernel_rfl) (by kernel_rfl) (by kernel_rfl) (by kernel_rfl) (Nat.eq_of_beq_eq_true hp) ha hq
/-- netsegment/nsgref12.addresses -/
noncomputable def gwAddrs : Ctx := { N := 28, np := 0, own := fun _ => false, plan := fun _ => none, hints := fun i => match Nat.beq i 2 with | true => [.virt 3 2] | false => [], cut := fun _ => false }
noncomputable def bwAddrs : Code := match Tryz.f63.body with | some c => c | none => .skip
theorem ofwAddrs {args : List AV} {hs : List Vm.Obj} {K : AV → List Vm.Obj → Prop} (hp : Nat.beq gwAddrs.np hs.length = true) (ha : Nat.ble args.length 28 = true) (hq : initQ hs args fun σ => codeQ Tryz.prog gwAddrs bwAddrs σ (retQ Tryz.prog gwAddrs Tryz.f63.results.toList K)) : ACall Tryz.prog 63 args hs K :=
  ACall.of_code (Γ := gwAddrs) Tryz.func63 (by kernel_rfl) (by kernel_rfl) (by kernel_rfl) (by kernel_rfl) (Nat.eq_of_beq_eq_true hp) ha hq
/-- netsegment/nsgref12.free -/
noncomputable def gwFree : Ctx := { N := 10, np := 0, own := fun _ => false, plan := fun i => match Nat.beq i 1 with | true => some (lin [(0, true), (1, true), (3, true), (2, false), (4, false), (5, false), (6, false), (7, true)]) | false => none, hints := fun _ => [], cut := fun _ => false }
noncomputable def bwFree : Code := match Tryz.f37.body with | some c => c | none => .skip
theorem ofwFree {args : List AV} {hs : List Vm.Obj} {K : AV → List Vm.Obj → Prop} (hp : Nat.beq gwFree.np hs.length = true) (ha : Nat.ble args.length 10 = true) (hq : initQ hs args fun σ => codeQ Tryz.prog gwFree bwFree σ (retQ Tryz.prog gwFree Tryz.f37.results.toList K)) : ACall Tryz.prog 37 args hs K :=
  ACall.of_code (Γ := gwFree) Tryz.func37 (by kernel_rfl) (by kernel_rfl) (by kernel_rfl) (by kernel_rfl) (Nat.eq_of_beq_eq_true hp) ha hq
/-- netsegment/nsgref12.lowest -/
noncomputable def gwLow : Ctx := { N := 48, np := 0, own := fun _ => false, plan := fun _ => none, hints := fun _ => [], cut := fun _ => false }
noncomputable def bwLow : Code := match Tryz.f40.body with | some c => c | none => .skip
theorem ofwLow {args : List AV} {hs : List Vm.Obj} {K : AV → List Vm.Obj → Prop} (hp : Nat.beq gwLow.np hs.length = true) (ha : Nat.ble args.length 48 = true) (hq : initQ hs args fun σ => codeQ Tryz.prog gwLow bwLow σ (retQ Tryz.prog gwLow Tryz.f40.results.toList K)) : ACall Tryz.prog 40 args hs K :=
  ACall.of_code (Γ := gwLow) Tryz.func40 (by kernel_rfl) (by kernel_rfl) (by kernel_rfl) (by kernel_rfl) (Nat.eq_of_beq_eq_true hp) ha hq
/-- netsegment/nsgref12.Free -/
noncomputable def gwFreeP : Ctx := { N := 25, np := 0, own := fun _ => false, plan := fun _ => none, hints := fun i => match Nat.beq i 4 with | true => [.virt 3 2] | false => [], cut := fun _ => false }
noncomputable def bwFreeP : Code := match Tryz.f14.body with | some c => c | none => .skip
theorem ofwFreeP {args : List AV} {hs : List Vm.Obj} {K : AV → List Vm.Obj → Prop} (hp : Nat.beq gwFreeP.np hs.length = true) (ha : Nat.ble args.length 25 = true) (hq : initQ hs args fun σ => codeQ Tryz.prog gwFreeP bwFreeP σ (retQ Tryz.prog gwFreeP Tryz.f14.results.toList K)) : ACall Tryz.prog 14 args hs K :=
  ACall.of_code (Γ := gwFreeP) Tryz.func14 (by kernel_rfl) (by kernel_rfl) (by kernel_rfl) (by kernel_rfl) (Nat.eq_of_beq_eq_true hp) ha hq
/-- netsegment/nsgref12.Fits -/
noncomputable def gwFits : Ctx := { N := 90, np := 0, own := fun _ => false, plan := fun i => match Nat.beq i 19 with | true => some (lin [(0, true), (1, true), (2, true), (3, true), (4, true), (5, true), (6, true), (7, true), (8, true), (9, true), (10, true), (11, true), (12, true), (13, true), (14, true), (15, true), (16, true), (17, true), (18, true), (19, true), (20, true), (21, true)]) | false => none, hints := fun _ => [], cut := fun _ => false }
noncomputable def bwFits : Code := match Tryz.f19.body with | some c => c | none => .skip
theorem ofwFits {args : List AV} {hs : List Vm.Obj} {K : AV → List Vm.Obj → Prop} (hp : Nat.beq gwFits.np hs.length = true) (ha : Nat.ble args.length 90 = true) (hq : initQ hs args fun σ => codeQ Tryz.prog gwFits bwFits σ (retQ Tryz.prog gwFits Tryz.f19.results.toList K)) : ACall Tryz.prog 19 args hs K :=
  ACall.of_code (Γ := gwFits) Tryz.func19 (by kernel_rfl) (by kernel_rfl) (by kernel_rfl) (by kernel_rfl) (Nat.eq_of_beq_eq_true hp) ha hq
/-- netsegment/nsgref12.Plan -/
noncomputable def gwPlan : Ctx := { N := 68, np := 0, own := fun _ => false, plan := fun i => match Nat.beq i 14 with | true => some (.one 0 true (.one 1 true (.one 2 true (.one 3 true (.one 5 true (.one 6 true (.one 7 true (.one 8 true (.alt 4 (.one 9 false (.one 10 true (.one 11 true (.one 12 false (.done))))) (.alt 9 (.one 4 true (.one 10 true (.one 11 true (.one 12 false (.done))))) (.stop))))))))))) | false => none, hints := fun _ => [], cut := fun _ => false, lend := fun i => match Nat.beq i 37 with | true => true | false => match Nat.beq i 40 with | true => true | false => false }
noncomputable def bwPlan : Code := match Tryz.f16.body with | some c => c | none => .skip
theorem ofwPlan {args : List AV} {hs : List Vm.Obj} {K : AV → List Vm.Obj → Prop} (hp : Nat.beq gwPlan.np hs.length = true) (ha : Nat.ble args.length 68 = true) (hq : initQ hs args fun σ => codeQ Tryz.prog gwPlan bwPlan σ (retQ Tryz.prog gwPlan Tryz.f16.results.toList K)) : ACall Tryz.prog 16 args hs K :=
  ACall.of_code (Γ := gwPlan) Tryz.func16 (by kernel_rfl) (by kernel_rfl) (by kernel_rfl) (by kernel_rfl) (Nat.eq_of_beq_eq_true hp) ha hq
/-- netsegment/nsglaw12.same -/
noncomputable def gsame12 : Ctx := { N := 26, np := 0, own := fun _ => false, plan := fun i => match Nat.beq i 6 with | true => some (lin [(0, true), (1, true), (2, true), (3, true), (4, true), (5, true), (6, true), (7, true), (8, true)]) | false => none, hints := fun _ => [], cut := fun _ => false }
noncomputable def bsame12 : Code := match Tryz.f20.body with | some c => c | none => .skip
theorem ofsame12 {args : List AV} {hs : List Vm.Obj} {K : AV → List Vm.Obj → Prop} (hp : Nat.beq gsame12.np hs.length = true) (ha : Nat.ble args.length 26 = true) (hq : initQ hs args fun σ => codeQ Tryz.prog gsame12 bsame12 σ (retQ Tryz.prog gsame12 Tryz.f20.results.toList K)) : ACall Tryz.prog 20 args hs K :=
  ACall.of_code (Γ := gsame12) Tryz.func20 (by kernel_rfl) (by kernel_rfl) (by kernel_rfl) (by kernel_rfl) (Nat.eq_of_beq_eq_true hp) ha hq
/-- netsegment/nsgref2.keep -/
noncomputable def g38r : Ctx := { N := 123, np := 0, own := fun _ => false, plan := fun i => match Nat.beq i 9 with | true => some (lin [(0, true), (1, true), (2, true), (3, true), (4, true), (5, true), (7, true), (8, true), (9, true), (10, true), (11, true), (12, true), (6, false), (13, false), (14, true), (15, true)]) | false => match Nat.beq i 20 with | true => some (lin [(0, true), (1, true), (2, true), (3, true), (4, true), (5, true), (6, true), (7, true), (8, true), (9, true), (10, true), (11, true), (12, true), (13, true), (14, true), (15, true), (16, true)]) | false => none, hints := fun i => match Nat.beq i 3 with | true => [.virt 10 2] | false => [], cut := fun i => match Nat.beq i 9 with | true => true | false => match Nat.beq i 10 with | true => true | false => match Nat.beq i 11 with | true => true | false => match Nat.beq i 18 with | true => true | false => match Nat.beq i 19 with | true => true | false => false, res := true }
noncomputable def b38r : Code := match Tryz.f83.body with | some c => c | none => .skip
theorem of38r {args : List AV} {hs : List Vm.Obj} {K : AV → List Vm.Obj → Prop} (hp : Nat.beq g38r.np hs.length = true) (ha : Nat.ble args.length 123 = true) (hq : initQ hs args fun σ => codeQ Tryz.prog g38r b38r σ (retQ Tryz.prog g38r Tryz.f83.results.toList K)) : ACall Tryz.prog 83 args hs K :=
  ACall.of_code (Γ := g38r) Tryz.func83 (by kernel_rfl) (by kernel_rfl) (by kernel_rfl) (by kernel_rfl) (Nat.eq_of_beq_eq_true hp) ha hq
/-- netsegment/nsgref2.Subtract -/
noncomputable def g43r : Ctx := { N := 8, np := 0, own := fun i => match Nat.beq i 83 with | true => true | false => false, plan := fun _ => none, hints := fun _ => [], cut := fun _ => false, res := true }
noncomputable def b43r : Code := match Tryz.f62.body with | some c => c | none => .skip
theorem of43r {args : List AV} {hs : List Vm.Obj} {K : AV → List Vm.Obj → Prop} (hp : Nat.beq g43r.np hs.length = true) (ha : Nat.ble args.length 8 = true) (hq : initQ hs args fun σ => codeQ Tryz.prog g43r b43r σ (retQ Tryz.prog g43r Tryz.f62.results.toList K)) : ACall Tryz.prog 62 args hs K :=
  ACall.of_code (Γ := g43r) Tryz.func62 (by kernel_rfl) (by kernel_rfl) (by kernel_rfl) (by kernel_rfl) (Nat.eq_of_beq_eq_true hp) ha hq
/-- netsegment/nsgref12.free -/
noncomputable def gwFreeR : Ctx := { N := 10, np := 0, own := fun i => match Nat.beq i 62 with | true => true | false => false, plan := fun i => match Nat.beq i 1 with | true => some (lin [(0, true), (1, true), (3, true), (2, false), (4, false), (5, false), (6, false), (7, true)]) | false => none, hints := fun _ => [], cut := fun _ => false, res := true }
noncomputable def bwFreeR : Code := match Tryz.f37.body with | some c => c | none => .skip
theorem ofwFreeR {args : List AV} {hs : List Vm.Obj} {K : AV → List Vm.Obj → Prop} (hp : Nat.beq gwFreeR.np hs.length = true) (ha : Nat.ble args.length 10 = true) (hq : initQ hs args fun σ => codeQ Tryz.prog gwFreeR bwFreeR σ (retQ Tryz.prog gwFreeR Tryz.f37.results.toList K)) : ACall Tryz.prog 37 args hs K :=
  ACall.of_code (Γ := gwFreeR) Tryz.func37 (by kernel_rfl) (by kernel_rfl) (by kernel_rfl) (by kernel_rfl) (Nat.eq_of_beq_eq_true hp) ha hq

end Go.Proofs.YtgcplfplbcpemaaGreat

set_option linter.unusedVariables false
set_option maxRecDepth 20000
namespace Go.Proofs.YtgcplfplbcpemaaGreat
open Go Go.Vm

/-- (*netsegment/nsggen.Tape).SpoilPrefix -/
noncomputable def gnSpP : Ctx := { N := 36, np := 1, own := fun i => match Nat.beq i 15 with | true => true | false => false, plan := fun i => match Nat.beq i 2 with | true => some (.one 0 true (.one 2 true (.wch 1 (.one 3 false (.one 4 true (.one 5 true (.one 6 true (.one 7 true (.one 8 false (.done)))))))))) | false => none, hints := fun _ => [], cut := fun _ => false }
noncomputable def bnSpP : Code := match Tryz.f22.body with | some c => c | none => .skip
theorem ofnSpP {args : List AV} {hs : List Vm.Obj} {K : AV → List Vm.Obj → Prop} (hp : Nat.beq gnSpP.np hs.length = true) (ha : Nat.ble args.length 36 = true) (hq : initQ hs args fun σ => codeQ Tryz.prog gnSpP bnSpP σ (retQ Tryz.prog gnSpP Tryz.f22.results.toList K)) : ACall Tryz.prog 22 args hs K :=
  ACall.of_code (Γ := gnSpP) Tryz.func22 (by kernel_rfl) (by kernel_rfl) (by kernel_rfl) (by kernel_rfl) (Nat.eq_of_beq_eq_true hp) ha hq
/-- (*netsegment/nsggen.Tape).Prefix -/
noncomputable def gnPref : Ctx := { N := 34, np := 1, own := fun i => match Nat.beq i 15 with | true => true | false => match Nat.beq i 42 with | true => true | false => false, plan := fun _ => none, hints := fun _ => [], cut := fun _ => false }
noncomputable def bnPref : Code := match Tryz.f23.body with | some c => c | none => .skip
theorem ofnPref {args : List AV} {hs : List Vm.Obj} {K : AV → List Vm.Obj → Prop} (hp : Nat.beq gnPref.np hs.length = true) (ha : Nat.ble args.length 34 = true) (hq : initQ hs args fun σ => codeQ Tryz.prog gnPref bnPref σ (retQ Tryz.prog gnPref Tryz.f23.results.toList K)) : ACall Tryz.prog 23 args hs K :=
  ACall.of_code (Γ := gnPref) Tryz.func23 (by kernel_rfl) (by kernel_rfl) (by kernel_rfl) (by kernel_rfl) (Nat.eq_of_beq_eq_true hp) ha hq
/-- (*netsegment/nsggen.Tape).SpoilTopology -/
noncomputable def gnSpT : Ctx := { N := 206, np := 1, own := fun i => match Nat.beq i 15 with | true => true | false => match Nat.beq i 22 with | true => true | false => match Nat.beq i 23 with | true => true | false => match Nat.beq i 13 with | true => true | false => false, plan := fun i => match Nat.beq i 6 with | true => some (.one 0 true (.one 3 true (.one 7 true (.wch 1 (.alt 2 (.one 4 false (.one 5 true (.wch 6 (.one 8 false (.one 9 true (.one 10 true (.one 11 false (.one 12 false (.one 13 true (.one 14 false (.done))))))))))) (.alt 4 (.alt 2 (.one 5 true (.wch 6 (.one 8 false (.one 9 true (.one 10 true (.one 11 false (.one 12 false (.one 13 true (.one 14 false (.done)))))))))) (.alt 8 (.one 9 true (.one 2 false (.one 5 true (.one 6 true (.one 10 true (.one 11 false (.one 12 false (.one 13 true (.one 14 false (.done)))))))))) (.stop))) (.stop))))))) | false => match Nat.beq i 9 with | true => some (.one 0 true (.one 3 true (.wch 1 (.alt 2 (.one 4 false (.one 5 true (.one 6 true (.one 7 true (.one 8 true (.one 9 false (.done))))))) (.alt 4 (.one 2 false (.one 5 true (.one 6 true (.one 7 true (.one 8 true (.one 9 false (.done))))))) (.stop)))))) | false => match Nat.beq i 11 with | true => some (.one 0 true (.one 2 true (.one 5 true (.one 7 true (.wch 1 (.one 3 false (.one 4 true (.one 6 false (.one 8 false (.one 9 true (.one 10 false (.one 11 false (.one 12 true (.one 13 false (.done))))))))))))))) | false => match Nat.beq i 14 with | true => some (.one 0 true (.one 3 true (.wch 1 (.alt 2 (.one 4 false (.one 5 true (.one 6 true (.one 7 true (.one 8 true (.one 9 false (.done))))))) (.alt 4 (.one 2 false (.one 5 true (.one 6 true (.one 7 true (.one 8 true (.one 9 false (.done))))))) (.stop)))))) | false => match Nat.beq i 17 with | true => some (.one 0 true (.one 2 true (.wch 1 (.one 3 false (.one 4 true (.one 5 true (.one 6 true (.one 7 false (.done))))))))) | false => match Nat.beq i 20 with | true => some (.one 0 true (.one 2 true (.one 6 true (.one 7 true (.one 8 true (.one 9 true (.one 10 true (.one 11 true (.one 12 true (.one 13 true (.one 14 true (.one 15 true (.wch 1 (.wch 3 (.one 4 true (.one 5 true (.one 16 false (.one 17 true (.one 18 true (.one 19 false (.done))))))))))))))))))))) | false => match Nat.beq i 23 with | true => some (lin [(0, true), (1, true), (2, true), (3, true), (4, true), (5, true), (6, true), (7, true), (8, true), (9, true), (10, false)]) | false => match Nat.beq i 26 with | true => some (lin [(0, true), (1, true), (2, true), (3, true), (4, true), (5, true), (6, false), (7, false), (8, true), (9, false)]) | false => match Nat.beq i 29 with | true => some (.one 0 true (.one 3 true (.wch 1 (.alt 2 (.one 4 false (.one 5 true (.one 6 true (.one 7 true (.one 8 true (.one 9 false (.done))))))) (.alt 4 (.one 2 false (.one 5 true (.one 6 true (.one 7 true (.one 8 true (.one 9 false (.done))))))) (.stop)))))) | false => match Nat.beq i 31 with | true => some (.one 0 true (.one 2 true (.wch 1 (.one 3 false (.one 4 false (.one 5 false (.one 6 true (.one 7 false (.done))))))))) | false => match Nat.beq i 39 with | true => some (.one 0 true (.one 3 true (.wch 1 (.alt 2 (.one 4 false (.one 5 true (.one 6 true (.one 7 true (.one 8 true (.one 9 false (.done))))))) (.alt 4 (.one 2 false (.one 5 true (.one 6 true (.one 7 true (.one 8 true (.one 9 false (.done))))))) (.stop)))))) | false => none, hints := fun _ => [], cut := fun _ => false }
noncomputable def bnSpT : Code := match Tryz.f8.body with | some c => c | none => .skip
theorem ofnSpT {args : List AV} {hs : List Vm.Obj} {K : AV → List Vm.Obj → Prop} (hp : Nat.beq gnSpT.np hs.length = true) (ha : Nat.ble args.length 206 = true) (hq : initQ hs args fun σ => codeQ Tryz.prog gnSpT bnSpT σ (retQ Tryz.prog gnSpT Tryz.f8.results.toList K)) : ACall Tryz.prog 8 args hs K :=
  ACall.of_code (Γ := gnSpT) Tryz.func8 (by kernel_rfl) (by kernel_rfl) (by kernel_rfl) (by kernel_rfl) (Nat.eq_of_beq_eq_true hp) ha hq
/-- netsegment/nsglaw12.plans -/
noncomputable def gplans12 : Ctx := { N := 39, np := 0, own := fun _ => false, plan := fun i => match Nat.beq i 3 with | true => some (lin [(0, true), (1, true), (2, false), (3, true), (4, true), (5, true), (6, true), (7, true), (8, true), (9, true), (11, true), (10, false), (12, false), (13, true), (14, true), (15, true), (16, true), (18, true), (17, false), (19, false), (20, false), (21, true), (22, true)]) | false => none, hints := fun _ => [], cut := fun _ => false }
noncomputable def bplans12 : Code := match Tryz.f7.body with | some c => c | none => .skip
theorem ofplans12 {args : List AV} {hs : List Vm.Obj} {K : AV → List Vm.Obj → Prop} (hp : Nat.beq gplans12.np hs.length = true) (ha : Nat.ble args.length 39 = true) (hq : initQ hs args fun σ => codeQ Tryz.prog gplans12 bplans12 σ (retQ Tryz.prog gplans12 Tryz.f7.results.toList K)) : ACall Tryz.prog 7 args hs K :=
  ACall.of_code (Γ := gplans12) Tryz.func7 (by kernel_rfl) (by kernel_rfl) (by kernel_rfl) (by kernel_rfl) (Nat.eq_of_beq_eq_true hp) ha hq
/-- netsegment/nsglaw12.AddressingPlans -/
noncomputable def glPlans : Ctx := { N := 41, np := 0, own := fun i => match Nat.beq i 5 with | true => true | false => match Nat.beq i 15 with | true => true | false => match Nat.beq i 6 with | true => true | false => match Nat.beq i 9 with | true => true | false => match Nat.beq i 8 with | true => true | false => false, plan := fun _ => none, hints := fun _ => [], cut := fun _ => false }
noncomputable def blPlans : Code := match Tryz.f3.body with | some c => c | none => .skip
theorem oflPlans {args : List AV} {hs : List Vm.Obj} {K : AV → List Vm.Obj → Prop} (hp : Nat.beq glPlans.np hs.length = true) (ha : Nat.ble args.length 41 = true) (hq : initQ hs args fun σ => codeQ Tryz.prog glPlans blPlans σ (retQ Tryz.prog glPlans Tryz.f3.results.toList K)) : ACall Tryz.prog 3 args hs K :=
  ACall.of_code (Γ := glPlans) Tryz.func3 (by kernel_rfl) (by kernel_rfl) (by kernel_rfl) (by kernel_rfl) (Nat.eq_of_beq_eq_true hp) ha hq
/-- netsegment/nsglaw12.AddressingLowest -/
noncomputable def glLow : Ctx := { N := 153, np := 0, own := fun i => match Nat.beq i 5 with | true => true | false => match Nat.beq i 6 with | true => true | false => match Nat.beq i 13 with | true => true | false => false, plan := fun i => match Nat.beq i 14 with | true => some (lin [(0, true), (1, true), (2, true), (3, true), (4, true), (5, true), (6, true), (7, true), (8, true), (9, true), (10, true), (11, true), (12, true), (13, true), (14, true), (15, true), (16, true), (17, true), (18, true), (19, true), (20, true), (21, true), (22, true), (23, true), (24, true), (25, true), (26, true), (27, true), (28, true), (29, true), (30, true), (31, true), (32, true), (33, true), (34, true), (35, true), (36, true), (37, true)]) | false => match Nat.beq i 16 with | true => some (lin [(0, true), (1, true), (2, true), (3, true), (4, true), (5, true), (6, true), (7, true), (8, true), (9, false)]) | false => match Nat.beq i 21 with | true => some (lin [(0, true), (1, true), (2, true), (3, true), (4, true), (5, true), (6, true), (7, true), (8, true), (9, true), (10, true), (11, true), (12, true), (13, true), (14, true), (15, true), (16, true), (17, true), (18, true), (19, true), (20, true), (21, true), (22, true), (23, true), (24, true), (25, true), (26, true), (27, true)]) | false => none, hints := fun _ => [], cut := fun _ => false }
noncomputable def blLow : Code := match Tryz.f4.body with | some c => c | none => .skip
theorem oflLow {args : List AV} {hs : List Vm.Obj} {K : AV → List Vm.Obj → Prop} (hp : Nat.beq glLow.np hs.length = true) (ha : Nat.ble args.length 153 = true) (hq : initQ hs args fun σ => codeQ Tryz.prog glLow blLow σ (retQ Tryz.prog glLow Tryz.f4.results.toList K)) : ACall Tryz.prog 4 args hs K :=
  ACall.of_code (Γ := glLow) Tryz.func4 (by kernel_rfl) (by kernel_rfl) (by kernel_rfl) (by kernel_rfl) (Nat.eq_of_beq_eq_true hp) ha hq

end Go.Proofs.YtgcplfplbcpemaaGreat

set_option linter.unusedVariables false
set_option linter.unusedSimpArgs false
set_option maxRecDepth 20000
namespace Go.Proofs.YtgcplfplbcpemaaGreat
open Go Go.Vm

/-- the blocks of size n in a range -/
def blkN (n : Int) (r : Rg) : Int := if (r.lo + n - 1) / n < (r.hi + 1) / n then (r.hi + 1) / n - (r.lo + n - 1) / n else 0
def cnt (sp : List Rg) (n : Int) : Int := (sp.map (blkN n)).foldr (· + ·) 0
theorem cnt_nil {n : Int} : cnt [] n = 0 := rfl
theorem cnt_cons {n : Int} {r : Rg} {l : List Rg} : cnt (r :: l) n = blkN n r + cnt l n := rfl
theorem cnt_append {n : Int} : ∀ {a b : List Rg}, cnt (a ++ b) n = cnt a n + cnt b n
  | [], b => by rw [List.nil_append, cnt_nil]; omega
  | r :: a, b => by rw [List.cons_append, cnt_cons, cnt_cons, cnt_append (a := a)]; omega
theorem blkN_pos {n : Int} {r : Rg} : 0 ≤ blkN n r := by unfold blkN; split <;> omega
theorem cnt_pos {n : Int} : ∀ {l : List Rg}, 0 ≤ cnt l n
  | [] => by rw [cnt_nil]; omega
  | r :: l => by rw [cnt_cons]; have := blkN_pos (n := n) (r := r); have := cnt_pos (n := n) (l := l); omega
theorem ceil_le {x n q : Int} (hn : 0 < n) : (x + n - 1) / n ≤ q ↔ x ≤ q * n := by
  rw [← Int.lt_add_one_iff, Int.ediv_lt_iff_lt_mul hn, Int.add_mul, Int.one_mul]
  omega
theorem le_fl {x n q : Int} (hn : 0 < n) : q ≤ x / n ↔ q * n ≤ x := Int.le_ediv_iff_mul_le hn
/-- a block lies in the range or not -/
theorem blkN_zero {n : Int} (hn : 0 < n) {r : Rg} : blkN n r = 0 ↔ lowIn n r = none := by
  unfold blkN lowIn
  generalize hc : (r.lo + n - 1) / n = c
  have h1 : c < (r.hi + 1) / n ↔ c * n + n - 1 ≤ r.hi := by
    rw [← Int.add_one_le_iff, le_fl hn, Int.add_mul, Int.one_mul]
    omega
  by_cases h : c * n + n - 1 ≤ r.hi
  · rw [if_pos (h1.2 h), if_pos h]
    have := h1.2 h
    constructor
    · intro h; omega
    · intro h; cases h
  · rw [if_neg (fun x => h (h1.1 x)), if_neg h]
    simp
theorem cnt_zero {n : Int} (hn : 0 < n) : ∀ {l : List Rg}, cnt l n = 0 ↔ lowest l n = none
  | [] => by simp [cnt_nil, lowest]
  | r :: l => by
    have h1 := blkN_pos (n := n) (r := r)
    have h2 := cnt_pos (n := n) (l := l)
    have h3 := blkN_zero hn (r := r)
    have h4 := cnt_zero hn (l := l)
    rw [cnt_cons]
    unfold lowest at h4 ⊢
    rw [List.findSome?_cons]
    constructor
    · intro h
      have e1 : blkN n r = 0 := by omega
      have e2 : cnt l n = 0 := by omega
      rw [h3.1 e1]
      exact h4.1 e2
    · intro h
      cases hc : lowIn n r with
      | some a => rw [hc] at h; cases h
      | none =>
        rw [hc] at h
        have e1 := h3.2 hc
        have e2 := h4.2 h
        omega

/-- a range without a block in it -/
def pieces (r : Rg) (a n : Int) : List Rg := (if r.lo < a then [mkR r.lo (a - 1)] else []) ++ (if a + n ≤ r.hi then [mkR (a + n) r.hi] else [])
theorem pieces_mem {r s : Rg} {a n : Int} (h1 : r.lo ≤ a) (h2 : a + n - 1 ≤ r.hi) (hn : 0 < n) (hs : s ∈ pieces r a n) : r.lo ≤ s.lo ∧ s.hi ≤ r.hi ∧ s.lo ≤ s.hi := by
  have := r.l0; have := r.h1
  unfold pieces at hs
  rcases List.mem_append.1 hs with hs | hs
  · split at hs
    · simp at hs; subst hs
      rw [mkR_lo (by omega) (by omega) (by omega) (by omega), mkR_hi (by omega) (by omega) (by omega) (by omega)]
      omega
    · simp at hs
  · split at hs
    · simp at hs; subst hs
      rw [mkR_lo (by omega) (by omega) (by omega) (by omega), mkR_hi (by omega) (by omega) (by omega) (by omega)]
      omega
    · simp at hs
theorem pieces_pw {r : Rg} {a n : Int} (h1 : r.lo ≤ a) (h2 : a + n - 1 ≤ r.hi) (hn : 0 < n) : (pieces r a n).Pairwise fun r s => r.hi + 1 < s.lo := by
  have := r.l0; have := r.h1
  unfold pieces
  split
  · split
    · refine List.pairwise_cons.2 ⟨fun s hs => ?_, by simp⟩
      simp at hs; subst hs
      rw [mkR_lo (by omega) (by omega) (by omega) (by omega), mkR_hi (by omega) (by omega) (by omega) (by omega)]
      omega
    · simp
  · split <;> simp
theorem pieces_has {r : Rg} {a n : Int} (h1 : r.lo ≤ a) (h2 : a + n - 1 ≤ r.hi) (hn : 0 < n) (v : Int) : has (pieces r a n) v = (decide (r.lo ≤ v) && decide (v ≤ r.hi) && !(decide (a ≤ v) && decide (v ≤ a + n - 1))) := by
  have := r.l0; have := r.h1
  unfold pieces
  rw [has_append, Bool.eq_iff_iff]
  by_cases c1 : r.lo < a <;> by_cases c2 : a + n ≤ r.hi
  · rw [if_pos c1, if_pos c2, has_one, has_one, mkR_lo (by omega) (by omega) (by omega) (by omega), mkR_hi (by omega) (by omega) (by omega) (by omega), mkR_lo (by omega) (by omega) (by omega) (by omega), mkR_hi (by omega) (by omega) (by omega) (by omega)]
    simp only [Bool.or_eq_true, Bool.and_eq_true, Bool.not_eq_true', Bool.and_eq_false_iff, decide_eq_true_eq, decide_eq_false_iff_not]
    omega
  · rw [if_pos c1, if_neg c2, has_one, mkR_lo (by omega) (by omega) (by omega) (by omega), mkR_hi (by omega) (by omega) (by omega) (by omega)]
    simp only [has, List.any_nil, Bool.or_false, Bool.and_eq_true, Bool.not_eq_true', Bool.and_eq_false_iff, decide_eq_true_eq, decide_eq_false_iff_not]
    omega
  · rw [if_neg c1, if_pos c2, has_one, mkR_lo (by omega) (by omega) (by omega) (by omega), mkR_hi (by omega) (by omega) (by omega) (by omega)]
    simp only [has, List.any_nil, Bool.false_or, Bool.and_eq_true, Bool.not_eq_true', Bool.and_eq_false_iff, decide_eq_true_eq, decide_eq_false_iff_not]
    omega
  · rw [if_neg c1, if_neg c2]
    simp only [Bool.and_eq_true, Bool.not_eq_true', Bool.and_eq_false_iff, decide_eq_true_eq, decide_eq_false_iff_not]
    constructor
    · intro h; cases h
    · intro h; omega
theorem pieces_cnt {r : Rg} {a n m k : Int} (h1 : r.lo ≤ a) (h2 : a + n - 1 ≤ r.hi) (hm : 0 < m) (hk : n = m * k) (hk0 : 0 < k) (ha : a % n = 0) : cnt (pieces r a n) m = blkN m r - k := by
  have b1 := r.l0; have b2 := r.h1
  have hn : 0 < n := by rw [hk]; exact Int.mul_pos hm hk0
  obtain ⟨q, hq⟩ := Int.dvd_of_emod_eq_zero ha
  have haq : a = (k * q) * m := by rw [hq, hk, Int.mul_comm m k, Int.mul_assoc, Int.mul_assoc, Int.mul_comm m q]
  have hanq : a + n = (k * q + k) * m := by rw [Int.add_mul, ← haq, hk, Int.mul_comm m k]
  generalize k * q = p at haq hanq
  have e1 : a / m = p := by rw [haq, Int.mul_ediv_cancel _ (by omega)]
  have e2 : (a + n + m - 1) / m = p + k := by
    have hle : (a + n + m - 1) / m ≤ p + k := (ceil_le hm).2 (by omega)
    have hge : p + k ≤ (a + n + m - 1) / m := (le_fl hm).2 (by omega)
    omega
  have e3 : (r.lo + m - 1) / m ≤ p := (ceil_le hm).2 (by omega)
  have e4 : p + k ≤ (r.hi + 1) / m := (le_fl hm).2 (by omega)
  have tot : blkN m r = (r.hi + 1) / m - (r.lo + m - 1) / m := by
    unfold blkN; rw [if_pos (by omega)]
  have left : cnt (if r.lo < a then [mkR r.lo (a - 1)] else []) m = p - (r.lo + m - 1) / m := by
    split
    · rw [cnt_cons, cnt_nil]
      unfold blkN
      rw [mkR_lo (by omega) (by omega) (by omega) (by omega), mkR_hi (by omega) (by omega) (by omega) (by omega), show a - 1 + 1 = a by omega, e1]
      split <;> omega
    · have : r.lo = a := by omega
      have hge : p ≤ (r.lo + m - 1) / m := (le_fl hm).2 (by omega)
      rw [cnt_nil]; omega
  have right : cnt (if a + n ≤ r.hi then [mkR (a + n) r.hi] else []) m = (r.hi + 1) / m - (p + k) := by
    split
    · rw [cnt_cons, cnt_nil]
      unfold blkN
      rw [mkR_lo (by omega) (by omega) (by omega) (by omega), mkR_hi (by omega) (by omega) (by omega) (by omega), e2]
      split <;> omega
    · have hge : (r.hi + 1) / m < p + k + 1 := by
        rw [Int.ediv_lt_iff_lt_mul hm, Int.add_mul, Int.one_mul]; omega
      rw [cnt_nil]; omega
  unfold pieces
  rw [cnt_append, left, right, tot]
  omega

theorem canon_split {l1 l2 : List Rg} {r : Rg} {m : List Rg} (hc : Canon (l1 ++ r :: l2)) (hm1 : ∀ s, s ∈ m → r.lo ≤ s.lo ∧ s.hi ≤ r.hi ∧ s.lo ≤ s.hi) (hm2 : m.Pairwise fun r s => r.hi + 1 < s.lo) : Canon (l1 ++ m ++ l2) := by
  have hp := List.pairwise_append.1 hc.2
  have hq := List.pairwise_cons.1 hp.2.1
  refine ⟨fun s hs => ?_, List.pairwise_append.2 ⟨List.pairwise_append.2 ⟨hp.1, hm2, fun a ha b hb => ?_⟩, hq.2, fun a ha b hb => ?_⟩⟩
  · rcases List.mem_append.1 hs with hs | hs
    · rcases List.mem_append.1 hs with hs | hs
      · exact hc.1 s (List.mem_append.2 (.inl hs))
      · exact (hm1 s hs).2.2
    · exact hc.1 s (List.mem_append.2 (.inr (List.mem_cons.2 (.inr hs))))
  · have := hp.2.2 a ha r (by simp)
    have := hm1 b hb
    omega
  · rcases List.mem_append.1 ha with ha | ha
    · exact hp.2.2 a ha b (List.mem_cons.2 (.inr hb))
    · have := hq.1 b hb
      have := hm1 a ha
      omega
theorem hasC (r : Rg) (l : List Rg) (v : Int) : has (r :: l) v = ((decide (r.lo ≤ v) && decide (v ≤ r.hi)) || has l v) := rfl
/-- the cut, seen as a list -/
theorem cut_eq {l1 l2 : List Rg} {r : Rg} {a n : Int} (hc : Canon (l1 ++ r :: l2)) (h1 : r.lo ≤ a) (h2 : a + n - 1 ≤ r.hi) (hn : 0 < n) : cutOf (l1 ++ r :: l2) a n = l1 ++ pieces r a n ++ l2 := by
  refine canonOf_eq (canon_split hc (fun s hs => pieces_mem h1 h2 hn hs) (pieces_pw h1 h2 hn)) fun v => ?_
  have hp := List.pairwise_append.1 hc.2
  have hq := List.pairwise_cons.1 hp.2.1
  have q1 : has l1 v = true → v < a := by
    intro h
    obtain ⟨s, hs, g1, g2⟩ := has_iff.1 h
    have := hp.2.2 s hs r (by simp)
    omega
  have q2 : has l2 v = true → a + n - 1 < v := by
    intro h
    obtain ⟨s, hs, g1, g2⟩ := has_iff.1 h
    have := hq.1 s hs
    omega
  rw [has_append, has_append, has_append, hasC, pieces_has h1 h2 hn, Bool.eq_iff_iff]
  simp only [Bool.or_eq_true, Bool.and_eq_true, Bool.not_eq_true', Bool.and_eq_false_iff, decide_eq_true_eq, decide_eq_false_iff_not]
  constructor
  · rintro ((h | h) | h)
    · exact ⟨.inl h, by have := q1 h; omega⟩
    · exact ⟨.inr (.inl h.1), h.2⟩
    · exact ⟨.inr (.inr h), by have := q2 h; omega⟩
  · rintro ⟨h | h | h, g⟩
    · exact .inl (.inl h)
    · exact .inl (.inr ⟨h, g⟩)
    · exact .inr h
/-- a served block takes its part of the blocks of each smaller size -/
theorem cut_cnt {sp : List Rg} {a n m k : Int} (hc : Canon sp) (hn : 0 < n) (ha : lowest sp n = some a) (hm : 0 < m) (hk : n = m * k) (hk0 : 0 < k) : cnt (cutOf sp a n) m = cnt sp m - k := by
  obtain ⟨r, hr, h1, h2, h3⟩ := lowest_in hn ha
  obtain ⟨l1, l2, rfl⟩ := List.append_of_mem hr
  rw [cut_eq hc h1 h2 hn, cnt_append, cnt_append, pieces_cnt h1 h2 hm hk hk0 h3, cnt_append, cnt_cons]
  omega

/-- the need of a list of sizes, in blocks of size b -/
def needOf (bs : List Int) (b : Int) : Int := (bs.map fun x => if x ≤ b then ((2 ^ (b - x).toNat : Nat) : Int) else 0).foldr (· + ·) 0
theorem needOf_cons {x : Int} {bs : List Int} {b : Int} : needOf (x :: bs) b = (if x ≤ b then ((2 ^ (b - x).toNat : Nat) : Int) else 0) + needOf bs b := rfl
theorem needOf_nil {b : Int} : needOf [] b = 0 := rfl
theorem needOf_pos {b : Int} : ∀ {bs : List Int}, 0 ≤ needOf bs b
  | [] => by rw [needOf_nil]; omega
  | x :: bs => by
    have := needOf_pos (b := b) (bs := bs)
    have := Nat.two_pow_pos (b - x).toNat
    rw [needOf_cons]
    split <;> omega
theorem needOf_zero {b : Int} : ∀ {bs : List Int}, (∀ x, x ∈ bs → b < x) → needOf bs b = 0
  | [], _ => needOf_nil
  | x :: bs, h => by
    have := h x (by simp)
    rw [needOf_cons, if_neg (by omega), needOf_zero fun y hy => h y (by simp [hy])]
    omega
theorem needOf_perm {b : Int} {l m : List Int} (h : l.Perm m) : needOf l b = needOf m b := by
  induction h with
  | nil => rfl
  | cons x _ ih => rw [needOf_cons, needOf_cons, ih]
  | swap x y l => rw [needOf_cons, needOf_cons, needOf_cons, needOf_cons]; omega
  | trans _ _ h1 h2 => rw [h1, h2]
/-- serving sizes, one after the other -/
noncomputable def greedy : List Int → List Rg → Bool
  | [], _ => true
  | x :: r, sp => match lowest sp (pz x) with
    | none => false
    | some a => greedy r (cutOf sp a (pz x))
theorem pz_split {x b : Int} (h : x ≤ b) (hb : b ≤ 32) : pz x = pz b * ((2 ^ (b - x).toNat : Nat) : Int) := by
  unfold pz
  rw [← Int.natCast_mul, ← Nat.pow_add, show (32 - x).toNat = (32 - b).toNat + (b - x).toNat by omega]
theorem greedy_iff : ∀ {bs : List Int} {sp : List Rg}, Canon sp → bs.Pairwise (· ≤ ·) → (∀ x, x ∈ bs → 1 ≤ x ∧ x ≤ 32) → (greedy bs sp = true ↔ ∀ b : Int, 1 ≤ b → b ≤ 32 → needOf bs b ≤ cnt sp (pz b))
  | [], sp, hc, _, _ => by
    simp only [greedy, true_iff]
    intro b _ _
    rw [needOf_nil]; exact cnt_pos
  | x :: r, sp, hc, hp, hb => by
    have hx := hb x (by simp)
    have hpx := (List.pairwise_cons.1 hp)
    have hn := pz_pos x
    cases ha : lowest sp (pz x) with
    | none =>
      simp only [greedy, ha, Bool.false_eq_true, false_iff]
      intro h
      have h1 := h x hx.1 hx.2
      rw [(cnt_zero hn).2 ha, needOf_cons, if_pos (Int.le_refl _)] at h1
      have := needOf_pos (b := x) (bs := r)
      have := Nat.two_pow_pos (x - x).toNat
      omega
    | some a =>
      simp only [greedy, ha]
      obtain ⟨r0, hr0, g1, g2, g3⟩ := lowest_in hn ha
      have := r0.l0; have := r0.h1
      have hc2 := (cutOf_spec sp (a := a) (n := pz x) (by omega) hn (by omega)).1
      rw [greedy_iff hc2 hpx.2 (fun y hy => hb y (by simp [hy]))]
      constructor
      · intro h b b1 b2
        rcases Int.lt_or_le b x with hlt | hle
        · rw [needOf_zero fun y hy => ?_]
          · exact cnt_pos
          · rcases List.mem_cons.1 hy with rfl | hy
            · exact hlt
            · have := hpx.1 y hy; omega
        · have h1 := h b b1 b2
          rw [cut_cnt hc hn ha (pz_pos b) (pz_split hle b2) (by have := Nat.two_pow_pos (b - x).toNat; omega)] at h1
          rw [needOf_cons, if_pos hle]
          omega
      · intro h b b1 b2
        rcases Int.lt_or_le b x with hlt | hle
        · rw [needOf_zero fun y hy => by have := hpx.1 y hy; omega]
          exact cnt_pos
        · have h1 := h b b1 b2
          rw [cut_cnt hc hn ha (pz_pos b) (pz_split hle b2) (by have := Nat.two_pow_pos (b - x).toNat; omega)]
          rw [needOf_cons, if_pos hle] at h1
          omega
end Go.Proofs.YtgcplfplbcpemaaGreat

set_option linter.unusedVariables false
set_option linter.unusedSimpArgs false
set_option maxRecDepth 20000
namespace Go.Proofs.YtgcplfplbcpemaaGreat
open Go Go.Vm

/-- by bits, then by index -/
def SO (t : Tp) (i j : Nat) : Prop := bitsAt t i < bitsAt t j ∨ (bitsAt t i = bitsAt t j ∧ i < j)
theorem so_trans {t : Tp} {i j k : Nat} (h1 : SO t i j) (h2 : SO t j k) : SO t i k := by unfold SO at *; omega
theorem so_irr {t : Tp} {i : Nat} : ¬ SO t i i := by unfold SO; omega
theorem so_ext {t : Tp} : ∀ {l m : List Nat}, l.Pairwise (SO t) → m.Pairwise (SO t) → (∀ z, z ∈ l ↔ z ∈ m) → l = m
  | [], [], _, _, _ => rfl
  | [], y :: m, _, _, h => absurd ((h y).2 (by simp)) (by simp)
  | x :: l, [], _, _, h => absurd ((h x).1 (by simp)) (by simp)
  | x :: l, y :: m, hl, hm, h => by
    have ⟨l1, l2⟩ := List.pairwise_cons.1 hl
    have ⟨m1, m2⟩ := List.pairwise_cons.1 hm
    have e : x = y := by
      rcases List.mem_cons.1 ((h x).1 (by simp)) with e | hx
      · exact e
      · rcases List.mem_cons.1 ((h y).2 (by simp)) with e | hy
        · exact e.symm
        · exact absurd (so_trans (m1 x hx) (l1 y hy)) so_irr
    subst e
    have : l = m := so_ext l2 m2 fun z => by
      constructor
      · intro hz
        rcases List.mem_cons.1 ((h z).1 (by simp [hz])) with rfl | hz2
        · exact absurd (l1 z hz) so_irr
        · exact hz2
      · intro hz
        rcases List.mem_cons.1 ((h z).2 (by simp [hz])) with rfl | hz2
        · exact absurd (m1 z hz) so_irr
        · exact hz2
    rw [this]
theorem insRev_so {t : Tp} {x : Nat} : ∀ {l : List Nat}, l.Pairwise (fun a b => SO t b a) → (∀ y, y ∈ l → y < x) → (insRev (ltB t) l x).Pairwise (fun a b => SO t b a)
  | [], _, _ => by simp [insRev]
  | y :: ys, h, hx => by
    have ⟨h1, h2⟩ := List.pairwise_cons.1 h
    have hy := hx y (by simp)
    simp only [insRev]
    split
    · rename_i hlt
      simp only [ltB, decide_eq_true_eq] at hlt
      refine List.pairwise_cons.2 ⟨fun z hz => ?_, insRev_so h2 fun z hz => hx z (by simp [hz])⟩
      rcases insRev_mem.1 hz with rfl | hz
      · exact .inl hlt
      · exact h1 z hz
    · rename_i hlt
      simp only [ltB, decide_eq_true_eq] at hlt
      have hyx : SO t y x := by unfold SO; omega
      refine List.pairwise_cons.2 ⟨fun z hz => ?_, h⟩
      rcases List.mem_cons.1 hz with rfl | hz
      · exact hyx
      · exact so_trans (h1 z hz) hyx
theorem foldl_so {t : Tp} : ∀ {l acc : List Nat}, acc.Pairwise (fun a b => SO t b a) → l.Pairwise (· < ·) → (∀ y, y ∈ acc → ∀ x, x ∈ l → y < x) → (l.foldl (insRev (ltB t)) acc).Pairwise (fun a b => SO t b a)
  | [], acc, h, _, _ => h
  | x :: l, acc, h, hl, hx => by
    have ⟨l1, l2⟩ := List.pairwise_cons.1 hl
    rw [List.foldl_cons]
    refine foldl_so (insRev_so h fun y hy => hx y hy x (by simp)) l2 fun y hy z hz => ?_
    rcases insRev_mem.1 hy with rfl | hy
    · exact l1 z hz
    · exact hx y hy z (by simp [hz])
theorem isort_so {t : Tp} {l : List Nat} (hl : l.Pairwise (· < ·)) : (isort (ltB t) l).Pairwise (SO t) := by
  unfold isort sortRev
  rw [List.pairwise_reverse]
  exact foldl_so (by simp) hl (by simp)
theorem plIx_asc (l : List Ed) : (plIx l).Pairwise (· < ·) := by
  unfold plIx
  exact List.Pairwise.filter _ List.pairwise_lt_range
/-- the order of service -/
def ordOf (t : Tp) : List Nat := isort (ltB t) (plIx t.edges)
theorem ordOf_so (t : Tp) : (ordOf t).Pairwise (SO t) := isort_so (plIx_asc _)
theorem ordOf_mem {t : Tp} {i : Nat} : i ∈ ordOf t ↔ ∃ e, t.edges[i]? = some e ∧ e.pl = true := by rw [ordOf, isort_mem, plIx_mem]
/-- what is still to be served, from these bits and this index on -/
def restOf (t : Tp) (b : Int) (i : Nat) : List Nat := (ordOf t).filter fun j => decide (b < bitsAt t j) || (decide (bitsAt t j = b) && decide (i ≤ j))
theorem restOf_so {t : Tp} {b : Int} {i : Nat} : (restOf t b i).Pairwise (SO t) := List.Pairwise.filter _ (ordOf_so t)
theorem restOf_mem {t : Tp} {b : Int} {i j : Nat} : j ∈ restOf t b i ↔ (∃ e, t.edges[j]? = some e ∧ e.pl = true) ∧ (b < bitsAt t j ∨ (bitsAt t j = b ∧ i ≤ j)) := by
  rw [restOf, List.mem_filter, ordOf_mem]
  simp only [Bool.or_eq_true, Bool.and_eq_true, decide_eq_true_eq]
theorem restOf_hit {t : Tp} {i : Nat} {e : Ed} (hi : t.edges[i]? = some e) (hp : e.pl = true) : restOf t e.pf.bits i = i :: restOf t e.pf.bits (i + 1) := by
  have hb : bitsAt t i = e.pf.bits := by simp [bitsAt, hi]
  refine so_ext restOf_so (List.pairwise_cons.2 ⟨fun j hj => ?_, restOf_so⟩) fun z => ?_
  · have := (restOf_mem.1 hj).2
    unfold SO; omega
  · rw [List.mem_cons, restOf_mem, restOf_mem]
    constructor
    · rintro ⟨h1, h2⟩
      rcases Nat.lt_or_ge i z with h | h
      · exact .inr ⟨h1, by omega⟩
      · rcases h2 with h2 | h2
        · exact .inr ⟨h1, .inl h2⟩
        · exact .inl (by omega)
    · rintro (rfl | ⟨h1, h2⟩)
      · exact ⟨⟨e, hi, hp⟩, .inr ⟨hb, Nat.le_refl _⟩⟩
      · exact ⟨h1, by omega⟩
theorem restOf_miss {t : Tp} {b : Int} {i : Nat} (h : ∀ e, t.edges[i]? = some e → e.pl = true → e.pf.bits ≠ b) : restOf t b i = restOf t b (i + 1) := by
  refine so_ext restOf_so restOf_so fun z => ?_
  rw [restOf_mem, restOf_mem]
  constructor
  · rintro ⟨⟨e, h1, h2⟩, h3⟩
    refine ⟨⟨e, h1, h2⟩, ?_⟩
    rcases h3 with h3 | ⟨h3, h4⟩
    · exact .inl h3
    · refine .inr ⟨h3, ?_⟩
      rcases Nat.lt_or_ge i z with h5 | h5
      · exact h5
      · have : z = i := by omega
        subst this
        exact absurd (by simpa [bitsAt, h1] using h3) (h e h1 h2)
  · rintro ⟨h1, h3⟩
    exact ⟨h1, by omega⟩
theorem restOf_next {t : Tp} {b : Int} {i : Nat} (h : t.edges.length ≤ i) : restOf t b i = restOf t (b + 1) 0 := by
  refine so_ext restOf_so restOf_so fun z => ?_
  rw [restOf_mem, restOf_mem]
  constructor
  · rintro ⟨⟨e, h1, h2⟩, h3⟩
    have := (List.getElem?_eq_some_iff.1 h1).1
    exact ⟨⟨e, h1, h2⟩, by omega⟩
  · rintro ⟨h1, h3⟩
    exact ⟨h1, by omega⟩
theorem restOf_all {t : Tp} (h : ∀ (i : Nat) e, t.edges[i]? = some e → e.pl = true → 1 ≤ e.pf.bits) : restOf t 1 0 = ordOf t := by
  refine so_ext restOf_so (ordOf_so t) fun z => ?_
  rw [restOf_mem, ordOf_mem]
  constructor
  · exact fun h => h.1
  · rintro ⟨e, h1, h2⟩
    refine ⟨⟨e, h1, h2⟩, ?_⟩
    have := h z e h1 h2
    have hb : bitsAt t z = e.pf.bits := by simp [bitsAt, h1]
    omega
theorem restOf_end {t : Tp} (h : ∀ (i : Nat) e, t.edges[i]? = some e → e.pl = true → e.pf.bits ≤ 32) : restOf t 33 0 = [] := by
  refine List.eq_nil_iff_forall_not_mem.2 fun z hz => ?_
  obtain ⟨⟨e, h1, h2⟩, h3⟩ := restOf_mem.1 hz
  have := h z e h1 h2
  have hb : bitsAt t z = e.pf.bits := by simp [bitsAt, h1]
  omega

theorem setE_other {es : List Ed} {i j : Nat} {a : Int} (h : j ≠ i) : (setE es i a)[j]? = es[j]? := by
  unfold setE
  split
  · rw [List.getElem?_set_ne (fun h2 => h h2.symm)]
  · rfl
theorem planGo_greedy {t : Tp} : ∀ {r : List Nat} {es : List Ed} {sp : List Rg}, r.Pairwise (SO t) → (∀ i, i ∈ r → ∃ e, es[i]? = some e ∧ t.edges[i]? = some e) → ((planGo r es sp).isSome = true ↔ greedy (r.map (bitsAt t)) sp = true)
  | [], es, sp, _, _ => by simp [planGo, greedy]
  | i :: r, es, sp, hp, h => by
    obtain ⟨e, h1, h2⟩ := h i (by simp)
    have ⟨p1, p2⟩ := List.pairwise_cons.1 hp
    have hb : bitsAt t i = e.pf.bits := by simp [bitsAt, h2]
    rw [List.map_cons, hb]
    simp only [planGo, h1, greedy]
    cases ha : lowest sp (pz e.pf.bits) with
    | none => simp
    | some a =>
      simp only
      refine planGo_greedy p2 fun j hj => ?_
      obtain ⟨f, g1, g2⟩ := h j (by simp [hj])
      refine ⟨f, ?_, g2⟩
      rw [setE_other fun he => ?_]
      · exact g1
      · subst he; exact so_irr (p1 j hj)
/-- the planned edges fit exactly if there are blocks enough of each size -/
theorem fits_iff {t : Tp} (ht : TopOk t) (hb : ∀ (i : Nat) e, t.edges[i]? = some e → e.pl = true → 1 ≤ e.pf.bits ∧ e.pf.bits ≤ 32) (hc : Canon (freeOf t.pools t.edges)) :
    (planOf t).isSome = true ↔ ∀ b : Int, 1 ≤ b → b ≤ 32 → needOf ((plIx t.edges).map (bitsAt t)) b ≤ cnt (freeOf t.pools t.edges) (pz b) := by
  have hbm : ∀ x, x ∈ (ordOf t).map (bitsAt t) → 1 ≤ x ∧ x ≤ 32 := by
    intro x hx
    obtain ⟨i, hi, rfl⟩ := List.mem_map.1 hx
    obtain ⟨e, h1, h2⟩ := ordOf_mem.1 hi
    have := hb i e h1 h2
    have hb : bitsAt t i = e.pf.bits := by simp [bitsAt, h1]
    omega
  have hpw : ((ordOf t).map (bitsAt t)).Pairwise (· ≤ ·) := by
    rw [List.pairwise_map]
    exact (ordOf_so t).imp fun h => by unfold SO at h; omega
  have hg := greedy_iff hc hpw hbm
  have hn : ∀ b, needOf ((plIx t.edges).map (bitsAt t)) b = needOf ((ordOf t).map (bitsAt t)) b := fun b => needOf_perm ((isort_perm (ltB t) (plIx t.edges)).symm.map _)
  unfold planOf
  rw [← ordOf, planGo_greedy (ordOf_so t) fun i hi => by obtain ⟨e, h1, h2⟩ := ordOf_mem.1 hi; exact ⟨e, h1, h1⟩, hg]
  constructor
  · intro h b b1 b2
    rw [hn]; exact h b b1 b2
  · intro h b b1 b2
    rw [← hn]; exact h b b1 b2
end Go.Proofs.YtgcplfplbcpemaaGreat

set_option linter.unusedVariables false
set_option linter.unusedSimpArgs false
set_option maxRecDepth 20000
namespace Go.Proofs.YtgcplfplbcpemaaGreat
open Go Go.Vm

theorem blkK_is {at_ e k : Nat} (h1 : at_ % 2 ^ k = 0) (h2 : at_ + 2 ^ k ≤ e) (he : e ≤ 4294967296) (h3 : ¬ (at_ % 2 ^ (k + 1) = 0 ∧ at_ + 2 ^ (k + 1) ≤ e)) : blkK at_ (e - at_) 32 = k := by
  have hp := Nat.two_pow_pos k
  have hk : k ≤ 32 := by
    rcases Nat.lt_or_ge 32 k with h | h
    · have := Nat.pow_le_pow_right (n := 2) (by omega) (show 33 ≤ k by omega)
      omega
    · exact h
  have a1 := blkK_max at_ (e - at_) 32 k hk h1 (by omega)
  obtain ⟨s1, s2, s3⟩ := blkK_spec at_ (e - at_) (by omega) 32
  rcases Nat.lt_or_ge k (blkK at_ (e - at_) 32) with h | h
  · exfalso
    apply h3
    have d : 2 ^ (k + 1) ∣ 2 ^ blkK at_ (e - at_) 32 := Nat.pow_dvd_pow 2 h
    have q := Nat.le_of_dvd (Nat.two_pow_pos _) d
    exact ⟨Nat.mod_eq_zero_of_dvd (Nat.dvd_trans d (Nat.dvd_of_mod_eq_zero s2)), by omega⟩
  · omega
/-- nsgref1.Blocks -/
theorem crBlocks (lo hi : Nat) (hle : lo ≤ hi) (h2 : hi ≤ 4294967295) {K : AV → List Vm.Obj → Prop} (hK : K (.lst ((blksOf lo (hi + 1)).map encB)) []) :
    ACall Tryz.prog 64 [.agg [.v (.int .u32 (lo : Int)), .v (.int .u32 (hi : Int))], .v (.int .i64 32)] [] K := by
  refine ofrBlocks rfl rfl ?_
  have w32 : IntKind.u64.wrap (1 * 2 ^ min (Int.toNat 32) IntKind.u64.bits) = 4294967296 := by decide
  (all_goals (repeat' ((conv => whnf); first | (with_reducible refine wr_is w32 ?_) | ((with_reducible refine sl_full ?ha ?_); (case ha => exact gA)) | ((with_reducible refine Ob.intro ?ha ?_); (case ha => exact gC)) | ((with_reducible refine br_lt ?_)) | ((with_reducible refine br_lf ?_)) | ((with_reducible refine br_pos ?ha ?_); (case ha => exact gB)) | ((with_reducible refine br_neg ?ha ?_); (case ha => exact gB)) | ((with_reducible refine br_t ?ha ?_); (case ha => with_reducible assumption)) | ((with_reducible refine br_f ?ha ?_); (case ha => with_reducible assumption)) | ((with_reducible refine br_dec (fun h => ?_) (fun h => ?_))) | ((with_reducible refine br_not ?_)) | ((with_reducible refine br_b (fun h => ?_) (fun h => ?_))) | ((with_reducible refine wr_i64 rfl ?ha ?hb ?_); (case ha => exact gB); (case hb => exact gB)) | ((with_reducible refine wr_u64 rfl ?ha ?hb ?_); (case ha => exact gB); (case hb => exact gB)) | ((with_reducible refine wr_u32 rfl ?ha ?hb ?_); (case ha => exact gB); (case hb => exact gB)) | ((with_reducible refine And.intro ?_ ?_)) | ((with_reducible refine True.intro)) | ((with_reducible refine Stp.go ?_))))); (all_goals (conv => whnf))
  refine Lp.intro (Nat × List (Nat × Nat)) (fun g => ⟨2, [(1, .arr 2 (g.2.map encB))], [(5, .os 1 2 0 g.2.length), (6, .v (.int .u64 g.1)), (7, .v (.int .u64 ((hi : Int) + 1)))]⟩)
    (fun g => lo ≤ g.1 ∧ g.1 ≤ hi + 1 ∧ g.2.length ≤ g.1 - lo ∧ g.2 ++ blksOf g.1 (hi + 1) = blksOf lo (hi + 1)) (fun g => hi + 1 - g.1) (lo, []) ?_ ?_ ?_
  · exact ⟨Nat.le_refl _, by simp only; omega, Nat.zero_le _, rfl⟩
  · (refine Le.auto ?_; repeat' ((conv => whnf); first | with_reducible refine And.intro ?_ ?_ | with_reducible exact True.intro | rfl))
  rintro ⟨at_, out⟩ ⟨i1, i2, i3, i4⟩
  simp only at i1 i2 i3 i4 ⊢
  rcases Nat.lt_or_ge at_ (hi + 1) with hlt | hge
  · (all_goals (repeat' ((conv => whnf); first | ((with_reducible refine sl_full ?ha ?_); (case ha => exact gA)) | ((with_reducible refine Ob.intro ?ha ?_); (case ha => exact gC)) | ((with_reducible refine br_lt ?_)) | ((with_reducible refine br_lf ?_)) | ((with_reducible refine br_pos ?ha ?_); (case ha => exact gB)) | ((with_reducible refine br_neg ?ha ?_); (case ha => exact gB)) | ((with_reducible refine br_t ?ha ?_); (case ha => with_reducible assumption)) | ((with_reducible refine br_f ?ha ?_); (case ha => with_reducible assumption)) | ((with_reducible refine br_dec (fun h => ?_) (fun h => ?_))) | ((with_reducible refine br_not ?_)) | ((with_reducible refine br_b (fun h => ?_) (fun h => ?_))) | ((with_reducible refine wr_i64 rfl ?ha ?hb ?_); (case ha => exact gB); (case hb => exact gB)) | ((with_reducible refine wr_u64 rfl ?ha ?hb ?_); (case ha => exact gB); (case hb => exact gB)) | ((with_reducible refine wr_u32 rfl ?ha ?hb ?_); (case ha => exact gB); (case hb => exact gB)) | ((with_reducible refine And.intro ?_ ?_)) | ((with_reducible refine True.intro)) | ((with_reducible refine Stp.go ?_))))); (all_goals (conv => whnf))
    refine Lp.intro (Nat × Nat) (fun g => ⟨2, [(1, .arr 2 (out.map encB))], [(5, .os 1 2 0 out.length), (6, .v (.int .u64 at_)), (7, .v (.int .u64 ((hi : Int) + 1))), (8, .v (.int .u64 g.2))]⟩)
      (fun g => g.2 = 2 ^ g.1 ∧ at_ % g.2 = 0 ∧ at_ + g.2 ≤ hi + 1) (fun g => hi + 1 - g.2) (0, 1) ?_ ?_ ?_
    · exact ⟨rfl, Nat.mod_one _, by simp only; omega⟩
    · (refine Le.auto ?_; repeat' ((conv => whnf); first | with_reducible refine And.intro ?_ ?_ | with_reducible exact True.intro | rfl))
    rintro ⟨j, sz⟩ ⟨j2, j3, j4⟩
    simp only at j2 j3 j4 ⊢
    have hsz : 0 < sz := by rw [j2]; exact Nat.two_pow_pos j
    have hne : (2 * (sz : Int)) ≠ 0 := by omega
    have hpw : 2 * sz = 2 ^ (j + 1) := by rw [Nat.pow_succ, j2, Nat.mul_comm]
    have hmod : (at_ : Int).tmod (2 * (sz : Int)) = ((at_ % (2 * sz) : Nat) : Int) := rfl
    have hm1 : at_ % (2 * sz) < 2 * sz := Nat.mod_lt _ (by omega)
    (all_goals (repeat' ((conv => whnf); first | (with_reducible refine Ob.intro hne ?_) | (with_reducible refine wr_u64 hmod (by omega) (by omega) ?_) | ((with_reducible refine sl_full ?ha ?_); (case ha => exact gA)) | ((with_reducible refine Ob.intro ?ha ?_); (case ha => exact gC)) | ((with_reducible refine br_lt ?_)) | ((with_reducible refine br_lf ?_)) | ((with_reducible refine br_pos ?ha ?_); (case ha => exact gB)) | ((with_reducible refine br_neg ?ha ?_); (case ha => exact gB)) | ((with_reducible refine br_t ?ha ?_); (case ha => with_reducible assumption)) | ((with_reducible refine br_f ?ha ?_); (case ha => with_reducible assumption)) | ((with_reducible refine br_dec (fun h => ?_) (fun h => ?_))) | ((with_reducible refine br_not ?_)) | ((with_reducible refine br_b (fun h => ?_) (fun h => ?_))) | ((with_reducible refine wr_i64 rfl ?ha ?hb ?_); (case ha => exact gB); (case hb => exact gB)) | ((with_reducible refine wr_u64 rfl ?ha ?hb ?_); (case ha => exact gB); (case hb => exact gB)) | ((with_reducible refine wr_u32 rfl ?ha ?hb ?_); (case ha => exact gB); (case hb => exact gB)) | ((with_reducible refine And.intro ?_ ?_)) | ((with_reducible refine True.intro)) | ((with_reducible refine Stp.go ?_))))); (all_goals (conv => whnf))
    · rename_i hm
      rw [hmod] at hm
      refine ⟨(j + 1, 2 * sz), ⟨hpw, by simp only; omega, by simp only; omega⟩, by simp only; omega, ?_⟩
      simp only
      rw [show ((2 * sz : Nat) : Int) = (sz : Int) * 2 by omega]
      (refine Le.auto ?_; repeat' ((conv => whnf); first | with_reducible refine And.intro ?_ ?_ | with_reducible exact True.intro | rfl))
    · rename_i hm
      rw [hmod] at hm
      have hk : blkK at_ (hi + 1 - at_) 32 = j := blkK_is (by rw [← j2]; exact j3) (by rw [← j2]; exact j4) (by omega) (by rw [← hpw]; omega)
      have he : encB (at_, j) = .agg [.v (.int .u32 (at_ : Int)), .v (.int .u32 ((at_ : Int) + sz - 1))] := by
        have : ((at_ + 2 ^ j - 1 : Nat) : Int) = (at_ : Int) + sz - 1 := by rw [← j2]; omega
        simp only [encB, this]
      refine ⟨(at_ + sz, out ++ [(at_, j)]), ⟨by simp only; omega, by simp only; omega, by simp only [List.length_append, List.length_cons, List.length_nil]; omega, ?_⟩, by simp only; omega, ?_⟩
      · simp only
        rw [← i4, blksOf_step hlt, hk, ← j2, List.append_assoc, List.singleton_append]
      · simp only [List.map_append, List.length_append, List.map_cons, List.map_nil, List.length_cons, List.length_nil]
        rw [he]
        (refine Le.auto ?_; repeat' ((conv => whnf); first | with_reducible refine And.intro ?_ ?_ | with_reducible exact True.intro | rfl))
    · have hm := h
      rw [hmod] at hm
      have hk : blkK at_ (hi + 1 - at_) 32 = j := blkK_is (by rw [← j2]; exact j3) (by rw [← j2]; exact j4) (by omega) (by rw [← hpw]; omega)
      have he : encB (at_, j) = .agg [.v (.int .u32 (at_ : Int)), .v (.int .u32 ((at_ : Int) + sz - 1))] := by
        have : ((at_ + 2 ^ j - 1 : Nat) : Int) = (at_ : Int) + sz - 1 := by rw [← j2]; omega
        simp only [encB, this]
      refine ⟨(at_ + sz, out ++ [(at_, j)]), ⟨by simp only; omega, by simp only; omega, by simp only [List.length_append, List.length_cons, List.length_nil]; omega, ?_⟩, by simp only; omega, ?_⟩
      · simp only
        rw [← i4, blksOf_step hlt, hk, ← j2, List.append_assoc, List.singleton_append]
      · simp only [List.map_append, List.length_append, List.map_cons, List.map_nil, List.length_cons, List.length_nil]
        rw [he]
        (refine Le.auto ?_; repeat' ((conv => whnf); first | with_reducible refine And.intro ?_ ?_ | with_reducible exact True.intro | rfl))
  · (all_goals (repeat' ((conv => whnf); first | ((with_reducible refine sl_full ?ha ?_); (case ha => exact gA)) | ((with_reducible refine Ob.intro ?ha ?_); (case ha => exact gC)) | ((with_reducible refine br_lt ?_)) | ((with_reducible refine br_lf ?_)) | ((with_reducible refine br_pos ?ha ?_); (case ha => exact gB)) | ((with_reducible refine br_neg ?ha ?_); (case ha => exact gB)) | ((with_reducible refine br_t ?ha ?_); (case ha => with_reducible assumption)) | ((with_reducible refine br_f ?ha ?_); (case ha => with_reducible assumption)) | ((with_reducible refine br_dec (fun h => ?_) (fun h => ?_))) | ((with_reducible refine br_not ?_)) | ((with_reducible refine br_b (fun h => ?_) (fun h => ?_))) | ((with_reducible refine wr_i64 rfl ?ha ?hb ?_); (case ha => exact gB); (case hb => exact gB)) | ((with_reducible refine wr_u64 rfl ?ha ?hb ?_); (case ha => exact gB); (case hb => exact gB)) | ((with_reducible refine wr_u32 rfl ?ha ?hb ?_); (case ha => exact gB); (case hb => exact gB)) | ((with_reducible refine And.intro ?_ ?_)) | ((with_reducible refine True.intro)) | ((with_reducible refine Stp.go ?_))))); (all_goals (conv => whnf))
    rw [blksOf_end (by omega), List.append_nil] at i4
    rw [i4]
    exact hK
/-- nsgref1.Split -/
theorem crSplit (r : Rg) (hle : r.lo ≤ r.hi) {K : AV → List Vm.Obj → Prop} (hK : K (.lst ((splitR r).map encP)) []) : ACall Tryz.prog 38 [encR r] [] K := by
  have b0 := r.l0; have b1 := r.l1; have b2 := r.h0; have b3 := r.h1
  obtain ⟨lo, hlo⟩ := Int.eq_ofNat_of_zero_le b0
  obtain ⟨hi, hhi⟩ := Int.eq_ofNat_of_zero_le b2
  have hlen := splitR_len r
  have hs : splitR r = (blksOf lo (hi + 1)).map fun b => mkPf b.1 (32 - (b.2 : Int)) := by rw [splitR, hlo, hhi]; rfl
  have hln : (splitR r).length = (blksOf lo (hi + 1)).length := by rw [hs, List.length_map]
  rw [show encR r = .agg [.v (.int .u32 (lo : Int)), .v (.int .u32 (hi : Int))] by rw [encR, hlo, hhi]]
  refine ofrSplit rfl rfl ?_
  (all_goals (repeat' ((conv => whnf); first | (with_reducible refine crBlocks lo hi (by omega) (by omega) ?_) | ((with_reducible refine sl_full ?ha ?_); (case ha => exact gA)) | ((with_reducible refine Ob.intro ?ha ?_); (case ha => exact gC)) | ((with_reducible refine br_lt ?_)) | ((with_reducible refine br_lf ?_)) | ((with_reducible refine br_pos ?ha ?_); (case ha => exact gB)) | ((with_reducible refine br_neg ?ha ?_); (case ha => exact gB)) | ((with_reducible refine br_t ?ha ?_); (case ha => with_reducible assumption)) | ((with_reducible refine br_f ?ha ?_); (case ha => with_reducible assumption)) | ((with_reducible refine br_dec (fun h => ?_) (fun h => ?_))) | ((with_reducible refine br_not ?_)) | ((with_reducible refine br_b (fun h => ?_) (fun h => ?_))) | ((with_reducible refine wr_i64 rfl ?ha ?hb ?_); (case ha => exact gB); (case hb => exact gB)) | ((with_reducible refine wr_u64 rfl ?ha ?hb ?_); (case ha => exact gB); (case hb => exact gB)) | ((with_reducible refine wr_u32 rfl ?ha ?hb ?_); (case ha => exact gB); (case hb => exact gB)) | ((with_reducible refine And.intro ?_ ?_)) | ((with_reducible refine True.intro)) | ((with_reducible refine Stp.go ?_))))); (all_goals (conv => whnf))
  rw [hs] at hK
  have hmem := blks_mem (hi + 1 - lo) lo (hi + 1)
  rw [← blksOf] at hmem
  generalize blksOf lo (hi + 1) = L at *
  refine Lp.intro Nat (fun k => ⟨2, [(1, .arr 2 (((L.take k).map fun b => mkPf b.1 (32 - (b.2 : Int))).map encP))], [(3, .os 1 2 0 k), (4, .lst (L.map encB)), (5, .v (.int .i64 k))]⟩) (fun k => k ≤ L.length) (fun k => L.length - k) 0 ?_ ?_ ?_
  · exact Nat.zero_le _
  · (refine Le.auto ?_; repeat' ((conv => whnf); first | with_reducible refine And.intro ?_ ?_ | with_reducible exact True.intro | rfl))
  intro k hk
  rcases Nat.lt_or_ge k L.length with hkl | hkl
  · obtain ⟨b, hb⟩ : ∃ b, L[k]? = some b := ⟨_, List.getElem?_eq_getElem hkl⟩
    obtain ⟨m1, m2, m3, m4⟩ := hmem b (List.mem_of_getElem? hb)
    have hl : (((L.take k).map fun b => mkPf b.1 (32 - (b.2 : Int))).map encP).length = k := by simp; omega
    have hp2 := Nat.two_pow_pos b.2
    (all_goals (repeat' ((conv => whnf); first | (with_reducible refine in_map hkl ?_) | (with_reducible refine ix_map hb ?_) | ((with_reducible refine sl_full ?ha ?_); (case ha => exact gA)) | ((with_reducible refine Ob.intro ?ha ?_); (case ha => exact gC)) | ((with_reducible refine br_lt ?_)) | ((with_reducible refine br_lf ?_)) | ((with_reducible refine br_pos ?ha ?_); (case ha => exact gB)) | ((with_reducible refine br_neg ?ha ?_); (case ha => exact gB)) | ((with_reducible refine br_t ?ha ?_); (case ha => with_reducible assumption)) | ((with_reducible refine br_f ?ha ?_); (case ha => with_reducible assumption)) | ((with_reducible refine br_dec (fun h => ?_) (fun h => ?_))) | ((with_reducible refine br_not ?_)) | ((with_reducible refine br_b (fun h => ?_) (fun h => ?_))) | ((with_reducible refine wr_i64 rfl ?ha ?hb ?_); (case ha => exact gB); (case hb => exact gB)) | ((with_reducible refine wr_u64 rfl ?ha ?hb ?_); (case ha => exact gB); (case hb => exact gB)) | ((with_reducible refine wr_u32 rfl ?ha ?hb ?_); (case ha => exact gB); (case hb => exact gB)) | ((with_reducible refine And.intro ?_ ?_)) | ((with_reducible refine True.intro)) | ((with_reducible refine Stp.go ?_))))); (all_goals (conv => whnf))
    refine Lp.intro Nat (fun n => ⟨2, [(1, .arr 2 (((L.take k).map fun b => mkPf b.1 (32 - (b.2 : Int))).map encP))], [(3, .os 1 2 0 k), (4, .lst (L.map encB)), (5, .v (.int .i64 k)), (6, .v (.int .i64 (32 - (n : Int))))]⟩) (fun n => n ≤ b.2) (fun n => b.2 - n) 0 ?_ ?_ ?_
    · exact Nat.zero_le _
    · (refine Le.auto ?_; repeat' ((conv => whnf); first | with_reducible refine And.intro ?_ ?_ | with_reducible exact True.intro | rfl))
    intro n hn
    have hpz : pz (32 - (n : Int)) = ((2 ^ n : Nat) : Int) := by unfold pz; rw [show (32 - (32 - (n : Int))).toNat = n by omega]
    have hpw := Nat.pow_le_pow_right (n := 2) (by omega) hn
    have hlt : n < b.2 → 2 ^ n < 2 ^ b.2 := fun h => Nat.pow_lt_pow_right (by omega) h
    (all_goals (repeat' ((conv => whnf); first | (with_reducible refine in_map hkl ?_) | (with_reducible refine ix_map hb ?_) | (with_reducible refine crSize _ (by omega) (by omega) ?_) | ((with_reducible refine sl_full ?ha ?_); (case ha => exact gA)) | ((with_reducible refine Ob.intro ?ha ?_); (case ha => exact gC)) | ((with_reducible refine br_lt ?_)) | ((with_reducible refine br_lf ?_)) | ((with_reducible refine br_pos ?ha ?_); (case ha => exact gB)) | ((with_reducible refine br_neg ?ha ?_); (case ha => exact gB)) | ((with_reducible refine br_t ?ha ?_); (case ha => with_reducible assumption)) | ((with_reducible refine br_f ?ha ?_); (case ha => with_reducible assumption)) | ((with_reducible refine br_dec (fun h => ?_) (fun h => ?_))) | ((with_reducible refine br_not ?_)) | ((with_reducible refine br_b (fun h => ?_) (fun h => ?_))) | ((with_reducible refine wr_i64 rfl ?ha ?hb ?_); (case ha => exact gB); (case hb => exact gB)) | ((with_reducible refine wr_u64 rfl ?ha ?hb ?_); (case ha => exact gB); (case hb => exact gB)) | ((with_reducible refine wr_u32 rfl ?ha ?hb ?_); (case ha => exact gB); (case hb => exact gB)) | ((with_reducible refine And.intro ?_ ?_)) | ((with_reducible refine True.intro)) | ((with_reducible refine Stp.go ?_))))); (all_goals (conv => whnf))
    · rw [hpz] at h
      have hlt2 : n < b.2 := by
        rcases Nat.lt_or_ge n b.2 with h1 | h1
        · exact h1
        · have : n = b.2 := by omega
          subst this; omega
      refine ⟨n + 1, by omega, by omega, ?_⟩
      rw [show 32 - ((n + 1 : Nat) : Int) = 32 - (n : Int) - 1 by omega]
      (refine Le.auto ?_; repeat' ((conv => whnf); first | with_reducible refine And.intro ?_ ?_ | with_reducible exact True.intro | rfl))
    · rw [hpz] at h
      have he : n = b.2 := by
        rcases Nat.lt_or_ge n b.2 with h1 | h1
        · have := hlt h1; omega
        · omega
      subst he
      refine ⟨k + 1, by omega, by omega, ?_⟩
      have e : ((L.take (k + 1)).map fun b => mkPf b.1 (32 - (b.2 : Int))).map encP = ((L.take k).map fun b => mkPf b.1 (32 - (b.2 : Int))).map encP ++ [.agg [.v (.int .u32 (b.1 : Int)), .v (.int .i64 (32 - (b.2 : Int)))]] := by
        rw [List.take_add_one, hb]
        simp [encP, mkPf_addr (a := (b.1 : Int)) (by omega) (by omega), mkPf_bits]
      rw [e]
      (refine Le.auto ?_; repeat' ((conv => whnf); first | with_reducible refine And.intro ?_ ?_ | with_reducible exact True.intro | rfl))
  · (all_goals (repeat' ((conv => whnf); first | (with_reducible refine sl_full (by rw [List.take_of_length_le hkl]; simp; omega) ?_) | ((with_reducible refine sl_full ?ha ?_); (case ha => exact gA)) | ((with_reducible refine Ob.intro ?ha ?_); (case ha => exact gC)) | ((with_reducible refine br_lt ?_)) | ((with_reducible refine br_lf ?_)) | ((with_reducible refine br_pos ?ha ?_); (case ha => exact gB)) | ((with_reducible refine br_neg ?ha ?_); (case ha => exact gB)) | ((with_reducible refine br_t ?ha ?_); (case ha => with_reducible assumption)) | ((with_reducible refine br_f ?ha ?_); (case ha => with_reducible assumption)) | ((with_reducible refine br_dec (fun h => ?_) (fun h => ?_))) | ((with_reducible refine br_not ?_)) | ((with_reducible refine br_b (fun h => ?_) (fun h => ?_))) | ((with_reducible refine wr_i64 rfl ?ha ?hb ?_); (case ha => exact gB); (case hb => exact gB)) | ((with_reducible refine wr_u64 rfl ?ha ?hb ?_); (case ha => exact gB); (case hb => exact gB)) | ((with_reducible refine wr_u32 rfl ?ha ?hb ?_); (case ha => exact gB); (case hb => exact gB)) | ((with_reducible refine And.intro ?_ ?_)) | ((with_reducible refine True.intro)) | ((with_reducible refine Stp.go ?_))))); (all_goals (conv => whnf))
    rw [List.take_of_length_le hkl]
    exact hK
theorem crSplitA (r : Rg) (hle : r.lo ≤ r.hi) {K : AV → List Vm.Obj → Prop} (hK : K (.lst ((splitR r).map encP)) []) : ACall Tryz.prog 38 [.agg [.v (.int .u32 r.lo), .v (.int .u32 r.hi)]] [] K := crSplit r hle hK
end Go.Proofs.YtgcplfplbcpemaaGreat

set_option linter.unusedVariables false
set_option linter.unusedSimpArgs false
set_option maxRecDepth 20000
namespace Go.Proofs.YtgcplfplbcpemaaGreat
open Go Go.Vm

theorem c14l (a : List Rg) (ha : a.length < 10000) {K : AV → List Vm.Obj → Prop} (hK : ∀ out, Canon out → (∀ v, has out v = has a v) → out.length ≤ 2 * a.length + 1 → K (encRs out) []) :
    ACall Tryz.prog 84 [.lst (a.map encR), .lst []] [] K :=
  c14 a [] ha (by simp) fun out h1 h2 h3 => hK out h1 (fun v => by rw [h2]; simp [has_nil]) (by simpa using h3)
/-- nsgref12.addresses -/
theorem cwAddrs (l : List Pf) (hp : ∀ p, p ∈ l → p.okP) (hl : l.length ≤ 1000) {K : AV → List Vm.Obj → Prop} (hK : ∀ out, Canon out → (∀ v, has out v = l.any fun p => p.has v) → out.length ≤ 2 * l.length + 1 → K (encRs out) []) :
    ACall Tryz.prog 63 [.lst (l.map encP)] [] K := by
  refine ofwAddrs rfl rfl ?_
  (all_goals (repeat' ((conv => whnf); first | ((with_reducible refine sl_full ?ha ?_); (case ha => exact gA)) | ((with_reducible refine Ob.intro ?ha ?_); (case ha => exact gC)) | ((with_reducible refine br_lt ?_)) | ((with_reducible refine br_lf ?_)) | ((with_reducible refine br_pos ?ha ?_); (case ha => exact gB)) | ((with_reducible refine br_neg ?ha ?_); (case ha => exact gB)) | ((with_reducible refine br_t ?ha ?_); (case ha => with_reducible assumption)) | ((with_reducible refine br_f ?ha ?_); (case ha => with_reducible assumption)) | ((with_reducible refine br_dec (fun h => ?_) (fun h => ?_))) | ((with_reducible refine br_not ?_)) | ((with_reducible refine br_b (fun h => ?_) (fun h => ?_))) | ((with_reducible refine wr_i64 rfl ?ha ?hb ?_); (case ha => exact gB); (case hb => exact gB)) | ((with_reducible refine wr_u64 rfl ?ha ?hb ?_); (case ha => exact gB); (case hb => exact gB)) | ((with_reducible refine wr_u32 rfl ?ha ?hb ?_); (case ha => exact gB); (case hb => exact gB)) | ((with_reducible refine And.intro ?_ ?_)) | ((with_reducible refine True.intro)) | ((with_reducible refine Stp.go ?_))))); (all_goals (conv => whnf))
  refine Lp.intro Nat (fun k => ⟨2, [(1, .arr 2 (((l.take k).map Pf.rg).map encR))], [(0, .lst (l.map encP)), (3, .os 1 2 0 k), (4, .v (.int .i64 k))]⟩) (fun k => k ≤ l.length) (fun k => l.length - k) 0 ?_ ?_ ?_
  · exact Nat.zero_le _
  · (refine Le.auto ?_; repeat' ((conv => whnf); first | with_reducible refine And.intro ?_ ?_ | with_reducible exact True.intro | rfl))
  intro k hk
  rcases Nat.lt_or_ge k l.length with hkl | hkl
  · obtain ⟨p, hp1⟩ : ∃ p, l[k]? = some p := ⟨_, List.getElem?_eq_getElem hkl⟩
    have hok := hp p (List.mem_of_getElem? hp1)
    have hlen : (((l.take k).map Pf.rg).map encR).length = k := by simp; omega
    (all_goals (repeat' ((conv => whnf); first | (with_reducible refine in_map hkl ?_) | (with_reducible refine ix_map hp1 ?_) | (with_reducible refine crOf p ?_) | ((with_reducible refine sl_full ?ha ?_); (case ha => exact gA)) | ((with_reducible refine Ob.intro ?ha ?_); (case ha => exact gC)) | ((with_reducible refine br_lt ?_)) | ((with_reducible refine br_lf ?_)) | ((with_reducible refine br_pos ?ha ?_); (case ha => exact gB)) | ((with_reducible refine br_neg ?ha ?_); (case ha => exact gB)) | ((with_reducible refine br_t ?ha ?_); (case ha => with_reducible assumption)) | ((with_reducible refine br_f ?ha ?_); (case ha => with_reducible assumption)) | ((with_reducible refine br_dec (fun h => ?_) (fun h => ?_))) | ((with_reducible refine br_not ?_)) | ((with_reducible refine br_b (fun h => ?_) (fun h => ?_))) | ((with_reducible refine wr_i64 rfl ?ha ?hb ?_); (case ha => exact gB); (case hb => exact gB)) | ((with_reducible refine wr_u64 rfl ?ha ?hb ?_); (case ha => exact gB); (case hb => exact gB)) | ((with_reducible refine wr_u32 rfl ?ha ?hb ?_); (case ha => exact gB); (case hb => exact gB)) | ((with_reducible refine And.intro ?_ ?_)) | ((with_reducible refine True.intro)) | ((with_reducible refine Stp.go ?_))))); (all_goals (conv => whnf))
    refine ⟨k + 1, by omega, by omega, ?_⟩
    have e : ((l.take (k + 1)).map Pf.rg).map encR = ((l.take k).map Pf.rg).map encR ++ [.agg [.v (.int .u32 p.rg.lo), .v (.int .u32 p.rg.hi)]] := by rw [List.take_add_one, hp1]; simp [Option.toList, encR]
    rw [e]
    (refine Le.auto ?_; repeat' ((conv => whnf); first | with_reducible refine And.intro ?_ ?_ | with_reducible exact True.intro | rfl))
  · have ek : l.take k = l := List.take_of_length_le hkl
    rw [ek]
    (all_goals (repeat' ((conv => whnf); first | (with_reducible refine c14l (l.map Pf.rg) (by rw [List.length_map]; omega) fun out o1 o2 o3 => ?_) | ((with_reducible refine sl_full ?ha ?_); (case ha => exact gA)) | ((with_reducible refine Ob.intro ?ha ?_); (case ha => exact gC)) | ((with_reducible refine br_lt ?_)) | ((with_reducible refine br_lf ?_)) | ((with_reducible refine br_pos ?ha ?_); (case ha => exact gB)) | ((with_reducible refine br_neg ?ha ?_); (case ha => exact gB)) | ((with_reducible refine br_t ?ha ?_); (case ha => with_reducible assumption)) | ((with_reducible refine br_f ?ha ?_); (case ha => with_reducible assumption)) | ((with_reducible refine br_dec (fun h => ?_) (fun h => ?_))) | ((with_reducible refine br_not ?_)) | ((with_reducible refine br_b (fun h => ?_) (fun h => ?_))) | ((with_reducible refine wr_i64 rfl ?ha ?hb ?_); (case ha => exact gB); (case hb => exact gB)) | ((with_reducible refine wr_u64 rfl ?ha ?hb ?_); (case ha => exact gB); (case hb => exact gB)) | ((with_reducible refine wr_u32 rfl ?ha ?hb ?_); (case ha => exact gB); (case hb => exact gB)) | ((with_reducible refine And.intro ?_ ?_)) | ((with_reducible refine True.intro)) | ((with_reducible refine Stp.go ?_))))); (all_goals (conv => whnf))
    rw [List.length_map] at o3
    exact hK out o1 (fun v => by rw [o2, rg_has hp]) o3
/-- nsgref12.free -/
theorem cwFree (t : Tp) (hp : ∀ p, p ∈ t.pools → p.okP) (he : ∀ e, e ∈ t.edges → e.pf.okP) (lp : t.pools.length ≤ 8) (le : t.edges.length ≤ 12) {K : AV → List Vm.Obj → Prop}
    (hK : ∀ out, Canon out → out = freeOf t.pools t.edges → out.length ≤ 100 → K (encRs out) []) :
    ACall Tryz.prog 37 [encT t] [] K := by
  have lf := fixed_len t.edges
  have hfe : ∀ p, p ∈ fixed t.edges → p.okP := fun p hp => by
    obtain ⟨e, h1, rfl⟩ := List.mem_map.1 hp
    exact he e (List.mem_filter.1 h1).1
  refine ofwFree rfl rfl ?_
  (all_goals (repeat' ((conv => whnf); first | (with_reducible refine cwAddrs t.pools hp (by omega) fun o1 a1 a2 a3 => ?_) | (with_reducible refine cuFixed t (by omega) ?_) | (with_reducible refine cwAddrs (fixed t.edges) hfe (by omega) fun o2 b1 b2 b3 => ?_) | (with_reducible refine c43 o1 o2 (by omega) (by omega) fun out c1 c2 c3 => ?_) | ((with_reducible refine sl_full ?ha ?_); (case ha => exact gA)) | ((with_reducible refine Ob.intro ?ha ?_); (case ha => exact gC)) | ((with_reducible refine br_lt ?_)) | ((with_reducible refine br_lf ?_)) | ((with_reducible refine br_pos ?ha ?_); (case ha => exact gB)) | ((with_reducible refine br_neg ?ha ?_); (case ha => exact gB)) | ((with_reducible refine br_t ?ha ?_); (case ha => with_reducible assumption)) | ((with_reducible refine br_f ?ha ?_); (case ha => with_reducible assumption)) | ((with_reducible refine br_dec (fun h => ?_) (fun h => ?_))) | ((with_reducible refine br_not ?_)) | ((with_reducible refine br_b (fun h => ?_) (fun h => ?_))) | ((with_reducible refine wr_i64 rfl ?ha ?hb ?_); (case ha => exact gB); (case hb => exact gB)) | ((with_reducible refine wr_u64 rfl ?ha ?hb ?_); (case ha => exact gB); (case hb => exact gB)) | ((with_reducible refine wr_u32 rfl ?ha ?hb ?_); (case ha => exact gB); (case hb => exact gB)) | ((with_reducible refine And.intro ?_ ?_)) | ((with_reducible refine True.intro)) | ((with_reducible refine Stp.go ?_))))); (all_goals (conv => whnf))
  refine hK out c1 (canonOf_eq c1 fun v => ?_).symm (by omega)
  rw [c2, a2, b2]
/-- nsgref12.lowest -/
theorem cwLow (l : List Rg) (b : Int) (b0 : 0 ≤ b) (b1 : b ≤ 32) (hl : l.length < 1000000) {K : AV → List Vm.Obj → Prop}
    (hK1 : lowest l (pz b) = none → K (.tup [.agg [.v (.int .u32 0), .v (.int .i64 0)], .v (.bool false)]) [])
    (hK2 : ∀ a, lowest l (pz b) = some a → 0 ≤ a → a + pz b - 1 ≤ 4294967295 → K (.tup [.agg [.v (.int .u32 a), .v (.int .i64 b)], .v (.bool true)]) []) :
    ACall Tryz.prog 40 [encRs l, .v (.int .i64 b)] [] K := by
  have hn := pz_pos b
  have hn2 := pz_le b b0
  refine ofwLow rfl rfl ?_
  (all_goals (repeat' ((conv => whnf); first | (with_reducible refine wr_is (size_wrap b b0 b1) ?_) | ((with_reducible refine sl_full ?ha ?_); (case ha => exact gA)) | ((with_reducible refine Ob.intro ?ha ?_); (case ha => exact gC)) | ((with_reducible refine br_lt ?_)) | ((with_reducible refine br_lf ?_)) | ((with_reducible refine br_pos ?ha ?_); (case ha => exact gB)) | ((with_reducible refine br_neg ?ha ?_); (case ha => exact gB)) | ((with_reducible refine br_t ?ha ?_); (case ha => with_reducible assumption)) | ((with_reducible refine br_f ?ha ?_); (case ha => with_reducible assumption)) | ((with_reducible refine br_dec (fun h => ?_) (fun h => ?_))) | ((with_reducible refine br_not ?_)) | ((with_reducible refine br_b (fun h => ?_) (fun h => ?_))) | ((with_reducible refine wr_i64 rfl ?ha ?hb ?_); (case ha => exact gB); (case hb => exact gB)) | ((with_reducible refine wr_u64 rfl ?ha ?hb ?_); (case ha => exact gB); (case hb => exact gB)) | ((with_reducible refine wr_u32 rfl ?ha ?hb ?_); (case ha => exact gB); (case hb => exact gB)) | ((with_reducible refine And.intro ?_ ?_)) | ((with_reducible refine True.intro)) | ((with_reducible refine Stp.go ?_))))); (all_goals (conv => whnf))
  refine Lp.intro Nat (fun k => ⟨1, [(0, .box [.v (.int .u32 0), .v (.int .i64 0)])], [(0, encRs l), (1, .v (.int .i64 b)), (4, .op 0 0), (6, .v (.int .u64 (pz b))), (7, .v (.int .i64 k))]⟩)
    (fun k => k ≤ l.length ∧ ∀ (i : Nat) r, i < k → l[i]? = some r → lowIn (pz b) r = none) (fun k => l.length - k) 0 ?_ ?_ ?_
  · exact ⟨Nat.zero_le _, fun i y hi => absurd hi (Nat.not_lt_zero _)⟩
  · (refine Le.auto ?_; repeat' ((conv => whnf); first | with_reducible refine And.intro ?_ ?_ | with_reducible exact True.intro | rfl))
  intro k ⟨hk, hinv⟩
  rcases Nat.lt_or_ge k l.length with hkl | hkl
  · obtain ⟨r, hr⟩ : ∃ r, l[k]? = some r := ⟨_, List.getElem?_eq_getElem hkl⟩
    have c1 := r.l0; have c2 := r.l1; have c3 := r.h0; have c4 := r.h1
    have g := low_ge (r := r) hn
    have q0 : 0 ≤ (r.lo + pz b - 1) / pz b := Int.ediv_nonneg (by omega) (by omega)
    have q1 : (r.lo + pz b - 1) / pz b ≤ 18446744073709551615 := Int.le_trans (Int.ediv_le_self _ (by omega)) (by omega)
    (all_goals (repeat' ((conv => whnf); first | (with_reducible refine in_map hkl ?_) | (with_reducible refine ix_map hr ?_) | (with_reducible refine Ob.intro (pz_ne _) ?_) | (with_reducible refine wr_u64 (Int.tdiv_eq_ediv_of_nonneg (by omega)) q0 q1 ?_) | ((with_reducible refine sl_full ?ha ?_); (case ha => exact gA)) | ((with_reducible refine Ob.intro ?ha ?_); (case ha => exact gC)) | ((with_reducible refine br_lt ?_)) | ((with_reducible refine br_lf ?_)) | ((with_reducible refine br_pos ?ha ?_); (case ha => exact gB)) | ((with_reducible refine br_neg ?ha ?_); (case ha => exact gB)) | ((with_reducible refine br_t ?ha ?_); (case ha => with_reducible assumption)) | ((with_reducible refine br_f ?ha ?_); (case ha => with_reducible assumption)) | ((with_reducible refine br_dec (fun h => ?_) (fun h => ?_))) | ((with_reducible refine br_not ?_)) | ((with_reducible refine br_b (fun h => ?_) (fun h => ?_))) | ((with_reducible refine wr_i64 rfl ?ha ?hb ?_); (case ha => exact gB); (case hb => exact gB)) | ((with_reducible refine wr_u64 rfl ?ha ?hb ?_); (case ha => exact gB); (case hb => exact gB)) | ((with_reducible refine wr_u32 rfl ?ha ?hb ?_); (case ha => exact gB); (case hb => exact gB)) | ((with_reducible refine And.intro ?_ ?_)) | ((with_reducible refine True.intro)) | ((with_reducible refine Stp.go ?_))))); (all_goals (conv => whnf))
    · refine hK2 _ ?_ (by omega) (by omega)
      have e1 : l.take k ++ r :: l.drop (k + 1) = l := by
        rw [List.getElem?_eq_getElem hkl] at hr
        rw [← Option.some.inj hr, ← List.drop_eq_getElem_cons hkl, List.take_append_drop]
      have e2 : (l.take k).findSome? (lowIn (pz b)) = none := List.findSome?_eq_none_iff.2 fun x hx => by
        obtain ⟨i, hi⟩ := List.mem_iff_getElem?.1 hx
        obtain ⟨h1, h2⟩ := take_get.1 hi
        exact hinv i x h1 h2
      rw [lowest, ← e1, List.findSome?_append, e2, Option.none_or, List.findSome?_cons, lowIn, if_pos h]
    · refine ⟨k + 1, ⟨by omega, all_succ hr (by rw [lowIn, if_neg h]) hinv⟩, by omega, ?_⟩
      (refine Le.auto ?_; repeat' ((conv => whnf); first | with_reducible refine And.intro ?_ ?_ | with_reducible exact True.intro | rfl))
  (all_goals (repeat' ((conv => whnf); first | ((with_reducible refine sl_full ?ha ?_); (case ha => exact gA)) | ((with_reducible refine Ob.intro ?ha ?_); (case ha => exact gC)) | ((with_reducible refine br_lt ?_)) | ((with_reducible refine br_lf ?_)) | ((with_reducible refine br_pos ?ha ?_); (case ha => exact gB)) | ((with_reducible refine br_neg ?ha ?_); (case ha => exact gB)) | ((with_reducible refine br_t ?ha ?_); (case ha => with_reducible assumption)) | ((with_reducible refine br_f ?ha ?_); (case ha => with_reducible assumption)) | ((with_reducible refine br_dec (fun h => ?_) (fun h => ?_))) | ((with_reducible refine br_not ?_)) | ((with_reducible refine br_b (fun h => ?_) (fun h => ?_))) | ((with_reducible refine wr_i64 rfl ?ha ?hb ?_); (case ha => exact gB); (case hb => exact gB)) | ((with_reducible refine wr_u64 rfl ?ha ?hb ?_); (case ha => exact gB); (case hb => exact gB)) | ((with_reducible refine wr_u32 rfl ?ha ?hb ?_); (case ha => exact gB); (case hb => exact gB)) | ((with_reducible refine And.intro ?_ ?_)) | ((with_reducible refine True.intro)) | ((with_reducible refine Stp.go ?_))))); (all_goals (conv => whnf))
  refine hK1 (List.findSome?_eq_none_iff.2 fun x hx => ?_)
  obtain ⟨i, hi⟩ := List.mem_iff_getElem?.1 hx
  exact before_all hkl hinv i x hi
end Go.Proofs.YtgcplfplbcpemaaGreat

set_option linter.unusedVariables false
set_option linter.unusedSimpArgs false
set_option maxRecDepth 20000
namespace Go.Proofs.YtgcplfplbcpemaaGreat
open Go Go.Vm

theorem c38r (a b : List Rg) (c top : Int) (ht0 : 0 ≤ top) (ht : top ≤ 4294967295) (ha : a.length < 10000) (hb : b.length < 10000)
    (hst : ∀ x, x ∈ starts (a ++ b) top → 0 ≤ x ∧ x ≤ top) (hpos : ∀ (k : Nat) x, (starts (a ++ b) top)[k + 1]? = some x → 1 ≤ x) (hlen : (starts (a ++ b) top).length < 100000)
    {K : AV → List Vm.Obj → Prop} (hK : K (.os 0 2 0 (keepL (fun v => keepC c (has a v) (has b v)) (starts (a ++ b) top) top).length) [.arr 2 ((keepL (fun v => keepC c (has a v) (has b v)) (starts (a ++ b) top) top).map encR)]) :
    ACall Tryz.prog 83 [encRs a, encRs b, .v (.int .i64 c), .v (.int .u32 top)] [] K := by
  refine of38r rfl rfl ?_
  iterate 12 (all_goals ((conv => whnf); first | (with_reducible refine c45' (a ++ b) top ht0 ht (by simp; omega) _ (by simp) ?_) | ((with_reducible refine sl_full ?ha ?_); (case ha => exact gA)) | ((with_reducible refine Ob.intro ?ha ?_); (case ha => exact gC)) | ((with_reducible refine br_lt ?_)) | ((with_reducible refine br_lf ?_)) | ((with_reducible refine br_pos ?ha ?_); (case ha => exact gB)) | ((with_reducible refine br_neg ?ha ?_); (case ha => exact gB)) | ((with_reducible refine br_t ?ha ?_); (case ha => with_reducible assumption)) | ((with_reducible refine br_f ?ha ?_); (case ha => with_reducible assumption)) | ((with_reducible refine br_dec (fun h => ?_) (fun h => ?_))) | ((with_reducible refine br_not ?_)) | ((with_reducible refine br_b (fun h => ?_) (fun h => ?_))) | ((with_reducible refine wr_i64 rfl ?ha ?hb ?_); (case ha => exact gB); (case hb => exact gB)) | ((with_reducible refine wr_u64 rfl ?ha ?hb ?_); (case ha => exact gB); (case hb => exact gB)) | ((with_reducible refine wr_u32 rfl ?ha ?hb ?_); (case ha => exact gB); (case hb => exact gB)) | ((with_reducible refine And.intro ?_ ?_)) | ((with_reducible refine True.intro)) | ((with_reducible refine Stp.go ?_)) | skip))
  generalize hst' : starts (a ++ b) top = st at *
  generalize hf : (fun v => keepC c (has a v) (has b v)) = f at *
  refine Lp.intro Nat (fun k => ⟨1, [(0, .arr 2 ((((segs top st).take k).foldl (keepS f) []).map encR))], [(0, encRs a), (1, encRs b), (2, .v (.int .i64 c)), (3, .v (.int .u32 top)), (9, encUs st), (10, .os 0 2 0 (((segs top st).take k).foldl (keepS f) []).length), (11, .v (.int .i64 k))]⟩) (fun k => k ≤ st.length ∧ (((segs top st).take k).foldl (keepS f) []).length ≤ k) (fun k => st.length - k) 0 ?_ ?_ ?_
  · exact ⟨by omega, by simp⟩
  · exact ⟨[(0, 3)], rfl, ⟨rfl, rfl, rfl, rfl, rfl, rfl, rfl, trivial⟩, ⟨rfl, trivial⟩⟩
  · intro k ⟨hk, hle⟩
    rcases Nat.lt_or_ge k st.length with hkl | hkl
    · obtain ⟨x, hx⟩ : ∃ x, st[k]? = some x := ⟨_, List.getElem?_eq_getElem hkl⟩
      have hx0 := hst x (List.mem_of_getElem? hx)
      obtain ⟨to, hto, hsg⟩ : ∃ to, (match st[k + 1]? with | some y => y - 1 | none => top) = to ∧ (segs top st)[k]? = some (x, to) := ⟨_, rfl, segs_get top st k x hx⟩
      have hs := foldl_succ (f := keepS f) (b := []) hsg
      have hfx : f x = keepC c (has a x) (has b x) := by rw [← hf]
      have hto1 : 0 ≤ to ∧ to ≤ top := by
        cases hy : st[k + 1]? with
        | none => rw [hy] at hto; simp only at hto; omega
        | some y =>
          rw [hy] at hto; simp only at hto
          have := hst y (List.mem_of_getElem? hy)
          have := hpos k y hy
          omega
      have next : ∀ (σ : St) (ρ : List (Nat × Nat)) (xs : List AV) (n : Nat), xs = (keepS f (((segs top st).take k).foldl (keepS f) []) (x, to)).map encR → n = (keepS f (((segs top st).take k).foldl (keepS f) []) (x, to)).length →
          Le 0 ⟨1, [(0, .arr 2 xs)], [(0, encRs a), (1, encRs b), (2, .v (.int .i64 c)), (3, .v (.int .u32 top)), (9, encUs st), (10, .os 0 2 0 n), (11, .v (.int .i64 ((k : Int) + 1)))]⟩ σ →
          ∃ g' : Nat, (g' ≤ st.length ∧ (((segs top st).take g').foldl (keepS f) []).length ≤ g') ∧ st.length - g' < st.length - k ∧ Le 0 ⟨1, [(0, .arr 2 ((((segs top st).take g').foldl (keepS f) []).map encR))], [(0, encRs a), (1, encRs b), (2, .v (.int .i64 c)), (3, .v (.int .u32 top)), (9, encUs st), (10, .os 0 2 0 (((segs top st).take g').foldl (keepS f) []).length), (11, .v (.int .i64 (g' : Int)))]⟩ σ := by
        intro σ ρ xs n h1 h2 h3
        have := keepS_length f (((segs top st).take k).foldl (keepS f) []) (x, to)
        exact ⟨k + 1, ⟨by omega, by rw [hs]; omega⟩, by omega, by rw [hs, ← h1, ← h2]; exact h3⟩
      generalize hout : ((segs top st).take k).foldl (keepS f) [] = out at hs hle next ⊢
      iterate 4 (all_goals ((conv => whnf); first | (with_reducible refine in_map hkl ?_) | ((with_reducible refine sl_full ?ha ?_); (case ha => exact gA)) | ((with_reducible refine Ob.intro ?ha ?_); (case ha => exact gC)) | ((with_reducible refine br_lt ?_)) | ((with_reducible refine br_lf ?_)) | ((with_reducible refine br_pos ?ha ?_); (case ha => exact gB)) | ((with_reducible refine br_neg ?ha ?_); (case ha => exact gB)) | ((with_reducible refine br_t ?ha ?_); (case ha => with_reducible assumption)) | ((with_reducible refine br_f ?ha ?_); (case ha => with_reducible assumption)) | ((with_reducible refine br_dec (fun h => ?_) (fun h => ?_))) | ((with_reducible refine br_not ?_)) | ((with_reducible refine br_b (fun h => ?_) (fun h => ?_))) | ((with_reducible refine wr_i64 rfl ?ha ?hb ?_); (case ha => exact gB); (case hb => exact gB)) | ((with_reducible refine wr_u64 rfl ?ha ?hb ?_); (case ha => exact gB); (case hb => exact gB)) | ((with_reducible refine wr_u32 rfl ?ha ?hb ?_); (case ha => exact gB); (case hb => exact gB)) | ((with_reducible refine And.intro ?_ ?_)) | ((with_reducible refine True.intro)) | ((with_reducible refine Stp.go ?_)) | skip))
      refine Jn.at ⟨1, [(0, .arr 2 (out.map encR))], [(0, encRs a), (1, encRs b), (2, .v (.int .i64 c)), (3, .v (.int .u32 top)), (9, encUs st), (10, .os 0 2 0 out.length), (11, .v (.int .i64 k)), (12, .v (.int .u64 to))]⟩ ?_ ?_
      · rcases Nat.lt_or_ge (k + 1) st.length with hk1 | hk1
        · obtain ⟨y, hy⟩ : ∃ y, st[k + 1]? = some y := ⟨_, List.getElem?_eq_getElem hk1⟩
          have h1 := hst y (List.mem_of_getElem? hy)
          have h2 := hpos k y hy
          rw [hy] at hto; simp only at hto; subst hto
          iterate 12 (all_goals ((conv => whnf); first | (with_reducible refine In.intro (k + 1) (by omega) (by simp; omega) ?_) | (with_reducible refine ix_map hy ?_) | ((with_reducible refine sl_full ?ha ?_); (case ha => exact gA)) | ((with_reducible refine Ob.intro ?ha ?_); (case ha => exact gC)) | ((with_reducible refine br_lt ?_)) | ((with_reducible refine br_lf ?_)) | ((with_reducible refine br_pos ?ha ?_); (case ha => exact gB)) | ((with_reducible refine br_neg ?ha ?_); (case ha => exact gB)) | ((with_reducible refine br_t ?ha ?_); (case ha => with_reducible assumption)) | ((with_reducible refine br_f ?ha ?_); (case ha => with_reducible assumption)) | ((with_reducible refine br_dec (fun h => ?_) (fun h => ?_))) | ((with_reducible refine br_not ?_)) | ((with_reducible refine br_b (fun h => ?_) (fun h => ?_))) | ((with_reducible refine wr_i64 rfl ?ha ?hb ?_); (case ha => exact gB); (case hb => exact gB)) | ((with_reducible refine wr_u64 rfl ?ha ?hb ?_); (case ha => exact gB); (case hb => exact gB)) | ((with_reducible refine wr_u32 rfl ?ha ?hb ?_); (case ha => exact gB); (case hb => exact gB)) | ((with_reducible refine And.intro ?_ ?_)) | ((with_reducible refine True.intro)) | ((with_reducible refine Stp.go ?_)) | skip))
          exact ⟨(), trivial, [(0, 0)], rfl, ⟨rfl, rfl, rfl, rfl, rfl, rfl, rfl, rfl, trivial⟩, ⟨rfl, trivial⟩⟩
        · rw [List.getElem?_eq_none hk1] at hto; simp only at hto; subst hto
          iterate 8 (all_goals ((conv => whnf); first | (with_reducible refine in_map hkl ?_) | ((with_reducible refine sl_full ?ha ?_); (case ha => exact gA)) | ((with_reducible refine Ob.intro ?ha ?_); (case ha => exact gC)) | ((with_reducible refine br_lt ?_)) | ((with_reducible refine br_lf ?_)) | ((with_reducible refine br_pos ?ha ?_); (case ha => exact gB)) | ((with_reducible refine br_neg ?ha ?_); (case ha => exact gB)) | ((with_reducible refine br_t ?ha ?_); (case ha => with_reducible assumption)) | ((with_reducible refine br_f ?ha ?_); (case ha => with_reducible assumption)) | ((with_reducible refine br_dec (fun h => ?_) (fun h => ?_))) | ((with_reducible refine br_not ?_)) | ((with_reducible refine br_b (fun h => ?_) (fun h => ?_))) | ((with_reducible refine wr_i64 rfl ?ha ?hb ?_); (case ha => exact gB); (case hb => exact gB)) | ((with_reducible refine wr_u64 rfl ?ha ?hb ?_); (case ha => exact gB); (case hb => exact gB)) | ((with_reducible refine wr_u32 rfl ?ha ?hb ?_); (case ha => exact gB); (case hb => exact gB)) | ((with_reducible refine And.intro ?_ ?_)) | ((with_reducible refine True.intro)) | ((with_reducible refine Stp.go ?_)) | skip))
          exact ⟨(), trivial, [(0, 0)], rfl, ⟨rfl, rfl, rfl, rfl, rfl, rfl, rfl, rfl, trivial⟩, ⟨rfl, trivial⟩⟩
      (conv => whnf)
      refine Jn.at ⟨1, [(0, .arr 2 (out.map encR))], [(0, encRs a), (1, encRs b), (2, .v (.int .i64 c)), (3, .v (.int .u32 top)), (9, encUs st), (10, .os 0 2 0 out.length), (11, .v (.int .i64 k)), (12, .v (.int .u64 to)), (13, .sb (has a x)), (14, .sb (has b x))]⟩ ?_ ?_
      · iterate 24 (all_goals ((conv => whnf); first | (with_reducible refine in_map hkl ?_) | (with_reducible refine ix_map hx ?_) | (with_reducible refine c34 a x (by omega) ?_) | (with_reducible refine c34 b x (by omega) ?_) | ((with_reducible refine sl_full ?ha ?_); (case ha => exact gA)) | ((with_reducible refine Ob.intro ?ha ?_); (case ha => exact gC)) | ((with_reducible refine br_lt ?_)) | ((with_reducible refine br_lf ?_)) | ((with_reducible refine br_pos ?ha ?_); (case ha => exact gB)) | ((with_reducible refine br_neg ?ha ?_); (case ha => exact gB)) | ((with_reducible refine br_t ?ha ?_); (case ha => with_reducible assumption)) | ((with_reducible refine br_f ?ha ?_); (case ha => with_reducible assumption)) | ((with_reducible refine br_dec (fun h => ?_) (fun h => ?_))) | ((with_reducible refine br_not ?_)) | ((with_reducible refine br_b (fun h => ?_) (fun h => ?_))) | ((with_reducible refine wr_i64 rfl ?ha ?hb ?_); (case ha => exact gB); (case hb => exact gB)) | ((with_reducible refine wr_u64 rfl ?ha ?hb ?_); (case ha => exact gB); (case hb => exact gB)) | ((with_reducible refine wr_u32 rfl ?ha ?hb ?_); (case ha => exact gB); (case hb => exact gB)) | ((with_reducible refine And.intro ?_ ?_)) | ((with_reducible refine True.intro)) | ((with_reducible refine Stp.go ?_)) | skip))
        all_goals exact ⟨(), trivial, [(0, 0)], rfl, ⟨rfl, rfl, rfl, rfl, rfl, rfl, rfl, rfl, rfl, rfl, trivial⟩, ⟨rfl, trivial⟩⟩
      (conv => whnf)
      -- what was asked, in whatever form
      refine Jn.intro AV (fun y => ⟨1, [(0, .arr 2 (out.map encR))], [(0, encRs a), (1, encRs b), (2, .v (.int .i64 c)), (3, .v (.int .u32 top)), (9, encUs st), (10, .os 0 2 0 out.length), (11, .v (.int .i64 k)), (12, .v (.int .u64 to)), (13, .sb (has a x)), (14, .sb (has b x)), (15, y)]⟩) (fun y => y = .sb (has a x || has b x) ∨ y = .v (.bool (has a x || has b x))) ?_ ?_
      · iterate 8 (all_goals ((conv => whnf); first | (with_reducible refine in_map hkl ?_) | ((with_reducible refine sl_full ?ha ?_); (case ha => exact gA)) | ((with_reducible refine Ob.intro ?ha ?_); (case ha => exact gC)) | ((with_reducible refine br_lt ?_)) | ((with_reducible refine br_lf ?_)) | ((with_reducible refine br_pos ?ha ?_); (case ha => exact gB)) | ((with_reducible refine br_neg ?ha ?_); (case ha => exact gB)) | ((with_reducible refine br_t ?ha ?_); (case ha => with_reducible assumption)) | ((with_reducible refine br_f ?ha ?_); (case ha => with_reducible assumption)) | ((with_reducible refine br_dec (fun h => ?_) (fun h => ?_))) | ((with_reducible refine br_not ?_)) | ((with_reducible refine br_b (fun h => ?_) (fun h => ?_))) | ((with_reducible refine wr_i64 rfl ?ha ?hb ?_); (case ha => exact gB); (case hb => exact gB)) | ((with_reducible refine wr_u64 rfl ?ha ?hb ?_); (case ha => exact gB); (case hb => exact gB)) | ((with_reducible refine wr_u32 rfl ?ha ?hb ?_); (case ha => exact gB); (case hb => exact gB)) | ((with_reducible refine And.intro ?_ ?_)) | ((with_reducible refine True.intro)) | ((with_reducible refine Stp.go ?_)) | skip))
        · exact ⟨.v (.bool true), .inr (by rw [h]; rfl), [(0, 0)], rfl, ⟨rfl, rfl, rfl, rfl, rfl, rfl, rfl, rfl, rfl, rfl, rfl, trivial⟩, ⟨rfl, trivial⟩⟩
        · exact ⟨.sb (has b x), .inl (by rw [h]; rfl), [(0, 0)], rfl, ⟨rfl, rfl, rfl, rfl, rfl, rfl, rfl, rfl, rfl, rfl, rfl, trivial⟩, ⟨rfl, trivial⟩⟩
      intro y hy
      (conv => whnf)
      refine Jn.intro AV (fun y => ⟨1, [(0, .arr 2 (out.map encR))], [(0, encRs a), (1, encRs b), (2, .v (.int .i64 c)), (3, .v (.int .u32 top)), (9, encUs st), (10, .os 0 2 0 out.length), (11, .v (.int .i64 k)), (12, .v (.int .u64 to)), (15, y)]⟩) (fun y => y = .sb (f x) ∨ y = .v (.bool (f x))) ?_ ?_
      · rcases hy with rfl | rfl
        all_goals
          iterate 20 (all_goals ((conv => whnf); first | (with_reducible refine in_map hkl ?_) | ((with_reducible refine sl_full ?ha ?_); (case ha => exact gA)) | ((with_reducible refine Ob.intro ?ha ?_); (case ha => exact gC)) | ((with_reducible refine br_lt ?_)) | ((with_reducible refine br_lf ?_)) | ((with_reducible refine br_pos ?ha ?_); (case ha => exact gB)) | ((with_reducible refine br_neg ?ha ?_); (case ha => exact gB)) | ((with_reducible refine br_t ?ha ?_); (case ha => with_reducible assumption)) | ((with_reducible refine br_f ?ha ?_); (case ha => with_reducible assumption)) | ((with_reducible refine br_dec (fun h => ?_) (fun h => ?_))) | ((with_reducible refine br_not ?_)) | ((with_reducible refine br_b (fun h => ?_) (fun h => ?_))) | ((with_reducible refine wr_i64 rfl ?ha ?hb ?_); (case ha => exact gB); (case hb => exact gB)) | ((with_reducible refine wr_u64 rfl ?ha ?hb ?_); (case ha => exact gB); (case hb => exact gB)) | ((with_reducible refine wr_u32 rfl ?ha ?hb ?_); (case ha => exact gB); (case hb => exact gB)) | ((with_reducible refine And.intro ?_ ?_)) | ((with_reducible refine True.intro)) | ((with_reducible refine Stp.go ?_)) | skip))
        all_goals first | exact ⟨.sb (has b x), .inl (by rw [hfx]; simp_all [keepC]), [(0, 0)], rfl, ⟨rfl, rfl, rfl, rfl, rfl, rfl, rfl, rfl, rfl, trivial⟩, ⟨rfl, trivial⟩⟩ | exact ⟨.sb (!has b x), .inl (by rw [hfx]; simp_all [keepC]), [(0, 0)], rfl, ⟨rfl, rfl, rfl, rfl, rfl, rfl, rfl, rfl, rfl, trivial⟩, ⟨rfl, trivial⟩⟩ | exact ⟨.v (.bool true), .inr (by rw [hfx]; simp_all [keepC]), [(0, 0)], rfl, ⟨rfl, rfl, rfl, rfl, rfl, rfl, rfl, rfl, rfl, trivial⟩, ⟨rfl, trivial⟩⟩ | exact ⟨.v (.bool false), .inr (by rw [hfx]; simp_all [keepC]), [(0, 0)], rfl, ⟨rfl, rfl, rfl, rfl, rfl, rfl, rfl, rfl, rfl, trivial⟩, ⟨rfl, trivial⟩⟩ | exact ⟨.sb (has a x || has b x), .inl (by rw [hfx]; simp_all [keepC]), [(0, 0)], rfl, ⟨rfl, rfl, rfl, rfl, rfl, rfl, rfl, rfl, rfl, trivial⟩, ⟨rfl, trivial⟩⟩ | exact ⟨.v (.bool (has a x || has b x)), .inr (by rw [hfx]; simp_all [keepC]), [(0, 0)], rfl, ⟨rfl, rfl, rfl, rfl, rfl, rfl, rfl, rfl, rfl, trivial⟩, ⟨rfl, trivial⟩⟩
      clear hy y
      intro y hy
      (conv => whnf)
      refine Jn.intro Unit (fun _ => ⟨1, [(0, .arr 2 (out.map encR))], [(0, encRs a), (1, encRs b), (2, .v (.int .i64 c)), (3, .v (.int .u32 top)), (9, encUs st), (10, .os 0 2 0 out.length), (11, .v (.int .i64 k)), (12, .v (.int .u64 to))]⟩) (fun _ => f x = true) ?_ ?_
      · have out18 : f x = false → keepS f out (x, to) = out := fun h => by simp [keepS, h]
        cases hb : f x
        all_goals
          rw [hb] at hy
          rcases hy with rfl | rfl
        all_goals iterate 8 (all_goals ((conv => whnf); first | (with_reducible refine in_map hkl ?_) | (with_reducible refine br_t rfl ?_) | (with_reducible refine br_f rfl ?_) | ((with_reducible refine sl_full ?ha ?_); (case ha => exact gA)) | ((with_reducible refine Ob.intro ?ha ?_); (case ha => exact gC)) | ((with_reducible refine br_lt ?_)) | ((with_reducible refine br_lf ?_)) | ((with_reducible refine br_pos ?ha ?_); (case ha => exact gB)) | ((with_reducible refine br_neg ?ha ?_); (case ha => exact gB)) | ((with_reducible refine br_t ?ha ?_); (case ha => with_reducible assumption)) | ((with_reducible refine br_f ?ha ?_); (case ha => with_reducible assumption)) | ((with_reducible refine br_dec (fun h => ?_) (fun h => ?_))) | ((with_reducible refine br_not ?_)) | ((with_reducible refine br_b (fun h => ?_) (fun h => ?_))) | ((with_reducible refine wr_i64 rfl ?ha ?hb ?_); (case ha => exact gB); (case hb => exact gB)) | ((with_reducible refine wr_u64 rfl ?ha ?hb ?_); (case ha => exact gB); (case hb => exact gB)) | ((with_reducible refine wr_u32 rfl ?ha ?hb ?_); (case ha => exact gB); (case hb => exact gB)) | ((with_reducible refine And.intro ?_ ?_)) | ((with_reducible refine True.intro)) | ((with_reducible refine Stp.go ?_)) | skip))
        all_goals first
          | exact ⟨(), rfl, [(0, 0)], rfl, ⟨rfl, rfl, rfl, rfl, rfl, rfl, rfl, rfl, trivial⟩, ⟨rfl, trivial⟩⟩
          | exact next _ [] _ _ (by rw [out18 hb]) (by rw [out18 hb]) ⟨[(0, 0)], rfl, ⟨rfl, rfl, rfl, rfl, rfl, rfl, rfl, trivial⟩, ⟨rfl, trivial⟩⟩
      clear hy y
      intro _ hb
      rcases List.eq_nil_or_concat out with hnil | ⟨ini, r, hcat⟩
      · subst hnil
        iterate 20 (all_goals ((conv => whnf); first | (with_reducible refine in_map hkl ?_) | (with_reducible refine ix_map hx ?_) | ((with_reducible refine sl_full ?ha ?_); (case ha => exact gA)) | ((with_reducible refine Ob.intro ?ha ?_); (case ha => exact gC)) | ((with_reducible refine br_lt ?_)) | ((with_reducible refine br_lf ?_)) | ((with_reducible refine br_pos ?ha ?_); (case ha => exact gB)) | ((with_reducible refine br_neg ?ha ?_); (case ha => exact gB)) | ((with_reducible refine br_t ?ha ?_); (case ha => with_reducible assumption)) | ((with_reducible refine br_f ?ha ?_); (case ha => with_reducible assumption)) | ((with_reducible refine br_dec (fun h => ?_) (fun h => ?_))) | ((with_reducible refine br_not ?_)) | ((with_reducible refine br_b (fun h => ?_) (fun h => ?_))) | ((with_reducible refine wr_i64 rfl ?ha ?hb ?_); (case ha => exact gB); (case hb => exact gB)) | ((with_reducible refine wr_u64 rfl ?ha ?hb ?_); (case ha => exact gB); (case hb => exact gB)) | ((with_reducible refine wr_u32 rfl ?ha ?hb ?_); (case ha => exact gB); (case hb => exact gB)) | ((with_reducible refine And.intro ?_ ?_)) | ((with_reducible refine True.intro)) | ((with_reducible refine Stp.go ?_)) | skip))
        exact next _ [] _ _ (by simp only [keepS, hb, if_true, List.getLast?_nil, List.map_cons, List.map_nil, List.nil_append]; rw [enc_mkR (by omega) (by omega) (by omega) (by omega)]) (by simp [keepS, hb]) ⟨[(0, 2)], rfl, ⟨rfl, rfl, rfl, rfl, rfl, rfl, rfl, trivial⟩, ⟨rfl, trivial⟩⟩
      · rw [List.concat_eq_append] at hcat
        subst hcat
        have b1 := r.l0; have b2 := r.l1; have b3 := r.h0; have b4 := r.h1
        have hr : (ini ++ [r])[ini.length]? = some r := by simp
        have hr0 : (ini ++ [r])[0 + ini.length]? = some r := by simp
        have hj : ((((ini ++ [r]).length : Nat) : Int) - 1 = ini.length) ∧ ini.length < (ini ++ [r]).length := by simp
        iterate 40 (all_goals ((conv => whnf); first | (with_reducible refine in_map hkl ?_) | (with_reducible refine ix_map hx ?_) | (with_reducible refine In.intro ini.length hj.1 hj.2 ?_) | (with_reducible refine ix_map hr ?_) | (with_reducible refine ix_map hr0 ?_) | ((with_reducible refine sl_full ?ha ?_); (case ha => exact gA)) | ((with_reducible refine Ob.intro ?ha ?_); (case ha => exact gC)) | ((with_reducible refine br_lt ?_)) | ((with_reducible refine br_lf ?_)) | ((with_reducible refine br_pos ?ha ?_); (case ha => exact gB)) | ((with_reducible refine br_neg ?ha ?_); (case ha => exact gB)) | ((with_reducible refine br_t ?ha ?_); (case ha => with_reducible assumption)) | ((with_reducible refine br_f ?ha ?_); (case ha => with_reducible assumption)) | ((with_reducible refine br_dec (fun h => ?_) (fun h => ?_))) | ((with_reducible refine br_not ?_)) | ((with_reducible refine br_b (fun h => ?_) (fun h => ?_))) | ((with_reducible refine wr_i64 rfl ?ha ?hb ?_); (case ha => exact gB); (case hb => exact gB)) | ((with_reducible refine wr_u64 rfl ?ha ?hb ?_); (case ha => exact gB); (case hb => exact gB)) | ((with_reducible refine wr_u32 rfl ?ha ?hb ?_); (case ha => exact gB); (case hb => exact gB)) | ((with_reducible refine And.intro ?_ ?_)) | ((with_reducible refine True.intro)) | ((with_reducible refine Stp.go ?_)) | skip))
        · have e : keepS f (ini ++ [r]) (x, to) = ini ++ [mkR r.lo to] := by
            simp only [keepS, hb, if_true, List.getLast?_append, List.getLast?_singleton, Option.some_or, List.dropLast_concat]
            rw [if_pos (by assumption)]
          refine next _ [] _ _ ?_ ?_ ⟨[(0, 0)], rfl, ⟨rfl, rfl, rfl, rfl, rfl, rfl, rfl, trivial⟩, ⟨rfl, trivial⟩⟩
          · rw [e, List.map_append, List.map_append, List.set_append_right _ _ (by simp)]
            simp only [List.map_cons, List.map_nil, List.length_map, Nat.zero_add, Nat.sub_self, List.set_cons_zero]
            rw [enc_mkR (by omega) (by omega) (by omega) (by omega)]
          · rw [e]; simp
        · have e : keepS f (ini ++ [r]) (x, to) = ini ++ [r] ++ [mkR x to] := by
            simp only [keepS, hb, if_true, List.getLast?_append, List.getLast?_singleton, Option.some_or, List.dropLast_concat]
            rw [if_neg (by assumption)]
          refine next _ [] _ _ ?_ ?_ ⟨[(0, 2)], rfl, ⟨rfl, rfl, rfl, rfl, rfl, rfl, rfl, trivial⟩, ⟨rfl, trivial⟩⟩
          · rw [e, List.map_append (l₁ := ini ++ [r]), List.map_cons, List.map_nil, enc_mkR (by omega) (by omega) (by omega) (by omega)]
          · rw [e]; simp
    · have hkk : ((segs top st).take k).foldl (keepS f) [] = keepL f st top := by
        rw [List.take_of_length_le (by rw [segs_length]; exact hkl)]; rfl
      rw [hkk]
      iterate 8 (all_goals ((conv => whnf); first | (with_reducible refine in_map hkl ?_) | ((with_reducible refine sl_full ?ha ?_); (case ha => exact gA)) | ((with_reducible refine Ob.intro ?ha ?_); (case ha => exact gC)) | ((with_reducible refine br_lt ?_)) | ((with_reducible refine br_lf ?_)) | ((with_reducible refine br_pos ?ha ?_); (case ha => exact gB)) | ((with_reducible refine br_neg ?ha ?_); (case ha => exact gB)) | ((with_reducible refine br_t ?ha ?_); (case ha => with_reducible assumption)) | ((with_reducible refine br_f ?ha ?_); (case ha => with_reducible assumption)) | ((with_reducible refine br_dec (fun h => ?_) (fun h => ?_))) | ((with_reducible refine br_not ?_)) | ((with_reducible refine br_b (fun h => ?_) (fun h => ?_))) | ((with_reducible refine wr_i64 rfl ?ha ?hb ?_); (case ha => exact gB); (case hb => exact gB)) | ((with_reducible refine wr_u64 rfl ?ha ?hb ?_); (case ha => exact gB); (case hb => exact gB)) | ((with_reducible refine wr_u32 rfl ?ha ?hb ?_); (case ha => exact gB); (case hb => exact gB)) | ((with_reducible refine And.intro ?_ ?_)) | ((with_reducible refine True.intro)) | ((with_reducible refine Stp.go ?_)) | skip))
      exact hK

theorem keepr (a b : List Rg) (c top : Int) (ht0 : 0 ≤ top) (ht : top ≤ 4294967295) (ha : a.length < 10000) (hb : b.length < 10000)
    {K : AV → List Vm.Obj → Prop} (hK : ∀ out, Canon out → (∀ v, has out v = (decide (0 ≤ v) && (decide (v < top + 1) && keepC c (has a v) (has b v)))) → out.length ≤ 2 * (a.length + b.length) + 1 → K (.os 0 2 0 out.length) [.arr 2 (out.map encR)]) :
    ACall Tryz.prog 83 [encRs a, encRs b, .v (.int .i64 c), .v (.int .u32 top)] [] K := by
  have inv := starts_inv (a ++ b) ht0
  have hl := starts_length (a ++ b) ht0
  obtain ⟨r0, hr0⟩ := inv.zero
  rw [List.length_append] at hl
  refine c38r a b c top ht0 ht ha hb inv.range (fun k x hx => ?_) (by omega) ?_
  · rw [hr0] at hx
    have := (List.pairwise_cons.1 (hr0 ▸ inv.sorted)).1 x (List.mem_of_getElem? (by simpa using hx))
    omega
  · have hk : KInv (fun v => keepC c (has a v) (has b v)) (keepL (fun v => keepC c (has a v) (has b v)) (starts (a ++ b) top) top) (top + 1) := by
      unfold keepL
      have hseg : ∀ s, s ∈ segs top (starts (a ++ b) top) → ∀ v, s.1 ≤ v → v ≤ s.2 → (fun v => keepC c (has a v) (has b v)) v = (fun v => keepC c (has a v) (has b v)) s.1 := by
        intro s hs v h1 h2
        simp only
        rw [has_const ht0 (fun r hr => List.mem_append.2 (.inl hr)) hs h1 h2, has_const ht0 (fun r hr => List.mem_append.2 (.inr hr)) hs h1 h2]
      have hsort := inv.sorted
      have hrange := inv.range
      rw [hr0] at hseg hsort hrange ⊢
      refine fold_inv ht r0 0 [] ⟨⟨fun r hr => by simp at hr, by simp⟩, fun v => ?_, fun r hr => by simp at hr⟩ hsort hrange hseg
      rw [Bool.eq_iff_iff]
      simp only [has, List.any_nil, Bool.false_eq_true, Bool.and_eq_true, decide_eq_true_eq, false_iff]
      omega
    refine hK _ hk.canon hk.mem ?_
    have := fold_keep_length (fun v => keepC c (has a v) (has b v)) (segs top (starts (a ++ b) top)) []
    rw [segs_length] at this
    unfold keepL
    simp only [List.length_nil] at this
    omega

theorem c43r (a b : List Rg) (ha : a.length < 10000) (hb : b.length < 10000) {K : AV → List Vm.Obj → Prop} (hK : ∀ out, Canon out → (∀ v, has out v = (has a v && !has b v)) → out.length ≤ 2 * (a.length + b.length) + 1 → K (.os 0 2 0 out.length) [.arr 2 (out.map encR)]) :
    ACall Tryz.prog 62 [encRs a, encRs b] [] K := by
  refine of43r rfl rfl ?_
  (conv => whnf)
  refine keepr a b 2 4294967295 (by omega) (by omega) ha hb fun out h1 h2 h3 => ?_
  (conv => whnf)
  refine hK out h1 (fun v => ?_) h3
  rw [h2, Bool.eq_iff_iff]
  simp only [Bool.and_eq_true, decide_eq_true_eq, keepC, Int.reduceEq, if_false, if_true]
  constructor
  · rintro ⟨_, _, h⟩; exact h
  · intro h
    have := has_bounds h.1
    exact ⟨by omega, by omega, h⟩

theorem cwFreeR (t : Tp) (hp : ∀ p, p ∈ t.pools → p.okP) (he : ∀ e, e ∈ t.edges → e.pf.okP) (lp : t.pools.length ≤ 8) (le : t.edges.length ≤ 12) {K : AV → List Vm.Obj → Prop}
    (hK : ∀ out, Canon out → out = freeOf t.pools t.edges → out.length ≤ 100 → K (.os 0 2 0 out.length) [.arr 2 (out.map encR)]) :
    ACall Tryz.prog 37 [encT t] [] K := by
  have lf := fixed_len t.edges
  have hfe : ∀ p, p ∈ fixed t.edges → p.okP := fun p hp => by
    obtain ⟨e, h1, rfl⟩ := List.mem_map.1 hp
    exact he e (List.mem_filter.1 h1).1
  refine ofwFreeR rfl rfl ?_
  (all_goals (repeat' ((conv => whnf); first | (with_reducible refine cwAddrs t.pools hp (by omega) fun o1 a1 a2 a3 => ?_) | (with_reducible refine cuFixed t (by omega) ?_) | (with_reducible refine cwAddrs (fixed t.edges) hfe (by omega) fun o2 b1 b2 b3 => ?_) | (with_reducible refine c43r o1 o2 (by omega) (by omega) fun out c1 c2 c3 => ?_) | ((with_reducible refine sl_full ?ha ?_); (case ha => exact gA)) | ((with_reducible refine Ob.intro ?ha ?_); (case ha => exact gC)) | ((with_reducible refine br_lt ?_)) | ((with_reducible refine br_lf ?_)) | ((with_reducible refine br_pos ?ha ?_); (case ha => exact gB)) | ((with_reducible refine br_neg ?ha ?_); (case ha => exact gB)) | ((with_reducible refine br_t ?ha ?_); (case ha => with_reducible assumption)) | ((with_reducible refine br_f ?ha ?_); (case ha => with_reducible assumption)) | ((with_reducible refine br_dec (fun h => ?_) (fun h => ?_))) | ((with_reducible refine br_not ?_)) | ((with_reducible refine br_b (fun h => ?_) (fun h => ?_))) | ((with_reducible refine wr_i64 rfl ?ha ?hb ?_); (case ha => exact gB); (case hb => exact gB)) | ((with_reducible refine wr_u64 rfl ?ha ?hb ?_); (case ha => exact gB); (case hb => exact gB)) | ((with_reducible refine wr_u32 rfl ?ha ?hb ?_); (case ha => exact gB); (case hb => exact gB)) | ((with_reducible refine And.intro ?_ ?_)) | ((with_reducible refine True.intro)) | ((with_reducible refine Stp.go ?_))))); (all_goals (conv => whnf))
  refine hK out c1 (canonOf_eq c1 fun v => ?_).symm (by omega)
  rw [c2, a2, b2]

end Go.Proofs.YtgcplfplbcpemaaGreat

set_option linter.unusedVariables false
set_option linter.unusedSimpArgs false
set_option maxRecDepth 20000
namespace Go.Proofs.YtgcplfplbcpemaaGreat
open Go Go.Vm

/-- nsgref12.Free -/
theorem cwFreeP (t : Tp) {K : AV → List Vm.Obj → Prop} (hK : K (.lst ((freePf t).map encP)) []) : ACall Tryz.prog 14 [encT t] [] K := by
  refine ACall.weak (ofwFreeP rfl rfl ?_)
  (all_goals (repeat' ((conv => whnf); first | (with_reducible refine cuVal t ?_) | ((with_reducible refine sl_full ?ha ?_); (case ha => exact gA)) | ((with_reducible refine Ob.intro ?ha ?_); (case ha => exact gC)) | ((with_reducible refine br_lt ?_)) | ((with_reducible refine br_lf ?_)) | ((with_reducible refine br_pos ?ha ?_); (case ha => exact gB)) | ((with_reducible refine br_neg ?ha ?_); (case ha => exact gB)) | ((with_reducible refine br_t ?ha ?_); (case ha => with_reducible assumption)) | ((with_reducible refine br_f ?ha ?_); (case ha => with_reducible assumption)) | ((with_reducible refine br_dec (fun h => ?_) (fun h => ?_))) | ((with_reducible refine br_not ?_)) | ((with_reducible refine br_b (fun h => ?_) (fun h => ?_))) | ((with_reducible refine wr_i64 rfl ?ha ?hb ?_); (case ha => exact gB); (case hb => exact gB)) | ((with_reducible refine wr_u64 rfl ?ha ?hb ?_); (case ha => exact gB); (case hb => exact gB)) | ((with_reducible refine wr_u32 rfl ?ha ?hb ?_); (case ha => exact gB); (case hb => exact gB)) | ((with_reducible refine And.intro ?_ ?_)) | ((with_reducible refine True.intro)) | ((with_reducible refine Stp.go ?_))))); (all_goals (conv => whnf))
  · have htb : topB t = true := by simp_all
    have ht := topB_iff.1 htb
    have := ht.e1; have := ht.p1
    have hfp : ∀ p, p ∈ t.pools → p.okP := fun p hp => by
      obtain ⟨i, hi⟩ := List.mem_iff_getElem?.1 hp
      exact (ht.pool i p hi).1
    have hfe : ∀ e, e ∈ t.edges → e.pf.okP := fun e hm => by
      obtain ⟨i, hi⟩ := List.mem_iff_getElem?.1 hm
      exact (ht.edge i e hi).1.2.2.2.2.2.1
    (all_goals (repeat' ((conv => whnf); first | (with_reducible refine cwFree t hfp hfe (by omega) (by omega) fun sp s1 s2 s3 => ?_) | ((with_reducible refine sl_full ?ha ?_); (case ha => exact gA)) | ((with_reducible refine Ob.intro ?ha ?_); (case ha => exact gC)) | ((with_reducible refine br_lt ?_)) | ((with_reducible refine br_lf ?_)) | ((with_reducible refine br_pos ?ha ?_); (case ha => exact gB)) | ((with_reducible refine br_neg ?ha ?_); (case ha => exact gB)) | ((with_reducible refine br_t ?ha ?_); (case ha => with_reducible assumption)) | ((with_reducible refine br_f ?ha ?_); (case ha => with_reducible assumption)) | ((with_reducible refine br_dec (fun h => ?_) (fun h => ?_))) | ((with_reducible refine br_not ?_)) | ((with_reducible refine br_b (fun h => ?_) (fun h => ?_))) | ((with_reducible refine wr_i64 rfl ?ha ?hb ?_); (case ha => exact gB); (case hb => exact gB)) | ((with_reducible refine wr_u64 rfl ?ha ?hb ?_); (case ha => exact gB); (case hb => exact gB)) | ((with_reducible refine wr_u32 rfl ?ha ?hb ?_); (case ha => exact gB); (case hb => exact gB)) | ((with_reducible refine And.intro ?_ ?_)) | ((with_reducible refine True.intro)) | ((with_reducible refine Stp.go ?_))))); (all_goals (conv => whnf))
    have hf : freePf t = sp.flatMap splitR := by rw [freePf, if_pos htb, s2]
    rw [hf] at hK
    have hlen := flat_len sp
    have hset : ∀ k, (((sp.take k).flatMap splitR).map encP).length = ((sp.take k).flatMap splitR).length := fun k => List.length_map ..
    refine Lp.intro Nat (fun k => ⟨2, [(0, .arr 2 (((sp.take k).flatMap splitR).map encP))], [(3, .os 0 2 0 ((sp.take k).flatMap splitR).length), (4, encRs sp), (5, .v (.int .i64 k))]⟩) (fun k => k ≤ sp.length) (fun k => sp.length - k) 0 ?_ ?_ ?_
    · exact Nat.zero_le _
    · (refine Le.auto ?_; repeat' ((conv => whnf); first | with_reducible refine And.intro ?_ ?_ | with_reducible exact True.intro | rfl))
    intro k hk
    rcases Nat.lt_or_ge k sp.length with hkl | hkl
    · obtain ⟨r, hr⟩ : ∃ r, sp[k]? = some r := ⟨_, List.getElem?_eq_getElem hkl⟩
      have hk1 := hlen k
      have hk2 := splitR_len r
      have hk3 := hset k
      have hle := s1.1 r (List.mem_of_getElem? hr)
      (all_goals (repeat' ((conv => whnf); first | (with_reducible refine in_map hkl ?_) | (with_reducible refine ix_map hr ?_) | (with_reducible refine crSplitA r hle ?_) | (with_reducible refine Ob.intro ⟨by rw [List.length_map]; omega, by rw [List.forall_mem_map]; intro _ _; rfl⟩ ?_) | ((with_reducible refine sl_full ?ha ?_); (case ha => exact gA)) | ((with_reducible refine Ob.intro ?ha ?_); (case ha => exact gC)) | ((with_reducible refine br_lt ?_)) | ((with_reducible refine br_lf ?_)) | ((with_reducible refine br_pos ?ha ?_); (case ha => exact gB)) | ((with_reducible refine br_neg ?ha ?_); (case ha => exact gB)) | ((with_reducible refine br_t ?ha ?_); (case ha => with_reducible assumption)) | ((with_reducible refine br_f ?ha ?_); (case ha => with_reducible assumption)) | ((with_reducible refine br_dec (fun h => ?_) (fun h => ?_))) | ((with_reducible refine br_not ?_)) | ((with_reducible refine br_b (fun h => ?_) (fun h => ?_))) | ((with_reducible refine wr_i64 rfl ?ha ?hb ?_); (case ha => exact gB); (case hb => exact gB)) | ((with_reducible refine wr_u64 rfl ?ha ?hb ?_); (case ha => exact gB); (case hb => exact gB)) | ((with_reducible refine wr_u32 rfl ?ha ?hb ?_); (case ha => exact gB); (case hb => exact gB)) | ((with_reducible refine And.intro ?_ ?_)) | ((with_reducible refine True.intro)) | ((with_reducible refine Stp.go ?_))))); (all_goals (conv => whnf))
      refine ⟨k + 1, by omega, by omega, ?_⟩
      have e : (sp.take (k + 1)).flatMap splitR = (sp.take k).flatMap splitR ++ splitR r := by rw [List.take_add_one, hr, List.flatMap_append]; simp [Option.toList]
      have hl : (splitR r).length = ((splitR r).map encP).length := (List.length_map ..).symm
      rw [e, List.map_append, List.length_append, hl]
      (refine Le.auto ?_; repeat' ((conv => whnf); first | with_reducible refine And.intro ?_ ?_ | with_reducible exact True.intro | rfl))
    · (all_goals (repeat' ((conv => whnf); first | (with_reducible refine sl_full (hset k) ?_) | ((with_reducible refine sl_full ?ha ?_); (case ha => exact gA)) | ((with_reducible refine Ob.intro ?ha ?_); (case ha => exact gC)) | ((with_reducible refine br_lt ?_)) | ((with_reducible refine br_lf ?_)) | ((with_reducible refine br_pos ?ha ?_); (case ha => exact gB)) | ((with_reducible refine br_neg ?ha ?_); (case ha => exact gB)) | ((with_reducible refine br_t ?ha ?_); (case ha => with_reducible assumption)) | ((with_reducible refine br_f ?ha ?_); (case ha => with_reducible assumption)) | ((with_reducible refine br_dec (fun h => ?_) (fun h => ?_))) | ((with_reducible refine br_not ?_)) | ((with_reducible refine br_b (fun h => ?_) (fun h => ?_))) | ((with_reducible refine wr_i64 rfl ?ha ?hb ?_); (case ha => exact gB); (case hb => exact gB)) | ((with_reducible refine wr_u64 rfl ?ha ?hb ?_); (case ha => exact gB); (case hb => exact gB)) | ((with_reducible refine wr_u32 rfl ?ha ?hb ?_); (case ha => exact gB); (case hb => exact gB)) | ((with_reducible refine And.intro ?_ ?_)) | ((with_reducible refine True.intro)) | ((with_reducible refine Stp.go ?_))))); (all_goals (conv => whnf))
      rw [List.take_of_length_le hkl]
      exact ⟨_, Weak.refl, hK⟩
  · have hf : freePf t = [] := by rw [freePf, if_neg (by simp_all)]
    rw [hf] at hK
    exact ⟨_, Weak.nils, hK⟩
/-- nsglaw12.same -/
theorem csame12 (a b : List Pf) (ha : a.length < 1000000000000) (hb : b.length < 1000000000000) {K : AV → List Vm.Obj → Prop} (hK : K (.sb (decide (a = b))) []) : ACall Tryz.prog 20 [.lst (a.map encP), .lst (b.map encP)] [] K := by
  refine ACall.bool (ofsame12 rfl rfl ?_)
  (all_goals (repeat' ((conv => whnf); first | ((with_reducible refine sl_full ?ha ?_); (case ha => exact gA)) | ((with_reducible refine Ob.intro ?ha ?_); (case ha => exact gC)) | ((with_reducible refine br_lt ?_)) | ((with_reducible refine br_lf ?_)) | ((with_reducible refine br_pos ?ha ?_); (case ha => exact gB)) | ((with_reducible refine br_neg ?ha ?_); (case ha => exact gB)) | ((with_reducible refine br_t ?ha ?_); (case ha => with_reducible assumption)) | ((with_reducible refine br_f ?ha ?_); (case ha => with_reducible assumption)) | ((with_reducible refine br_dec (fun h => ?_) (fun h => ?_))) | ((with_reducible refine br_not ?_)) | ((with_reducible refine br_b (fun h => ?_) (fun h => ?_))) | ((with_reducible refine wr_i64 rfl ?ha ?hb ?_); (case ha => exact gB); (case hb => exact gB)) | ((with_reducible refine wr_u64 rfl ?ha ?hb ?_); (case ha => exact gB); (case hb => exact gB)) | ((with_reducible refine wr_u32 rfl ?ha ?hb ?_); (case ha => exact gB); (case hb => exact gB)) | ((with_reducible refine And.intro ?_ ?_)) | ((with_reducible refine True.intro)) | ((with_reducible refine Stp.go ?_))))); (all_goals (conv => whnf))
  · have hl : a.length = b.length := by
      rw [List.length_map, List.length_map] at h; omega
    refine Lp.intro Nat (fun k => ⟨0, [], [(0, .lst (a.map encP)), (1, .lst (b.map encP)), (5, .v (.int .i64 k))]⟩) (fun k => k ≤ a.length ∧ ∀ i, i < k → a[i]? = b[i]?) (fun k => a.length - k) 0 ?_ ?_ ?_
    · exact ⟨Nat.zero_le _, fun i h => absurd h (Nat.not_lt_zero _)⟩
    · (refine Le.auto ?_; repeat' ((conv => whnf); first | with_reducible refine And.intro ?_ ?_ | with_reducible exact True.intro | rfl))
    intro k ⟨hk, hinv⟩
    rcases Nat.lt_or_ge k a.length with hkl | hkl
    · have hkb : k < b.length := by omega
      obtain ⟨p, hp⟩ : ∃ p, a[k]? = some p := ⟨_, List.getElem?_eq_getElem hkl⟩
      obtain ⟨q, hq⟩ : ∃ q, b[k]? = some q := ⟨_, List.getElem?_eq_getElem hkb⟩
      (all_goals (repeat' ((conv => whnf); first | (with_reducible refine in_map hkl ?_) | (with_reducible refine in_map hkb ?_) | (with_reducible refine ix_map hp ?_) | (with_reducible refine ix_map hq ?_) | (with_reducible refine eqv_P fun c hc => ?_) | ((with_reducible refine sl_full ?ha ?_); (case ha => exact gA)) | ((with_reducible refine Ob.intro ?ha ?_); (case ha => exact gC)) | ((with_reducible refine br_lt ?_)) | ((with_reducible refine br_lf ?_)) | ((with_reducible refine br_pos ?ha ?_); (case ha => exact gB)) | ((with_reducible refine br_neg ?ha ?_); (case ha => exact gB)) | ((with_reducible refine br_t ?ha ?_); (case ha => with_reducible assumption)) | ((with_reducible refine br_f ?ha ?_); (case ha => with_reducible assumption)) | ((with_reducible refine br_dec (fun h => ?_) (fun h => ?_))) | ((with_reducible refine br_not ?_)) | ((with_reducible refine br_b (fun h => ?_) (fun h => ?_))) | ((with_reducible refine wr_i64 rfl ?ha ?hb ?_); (case ha => exact gB); (case hb => exact gB)) | ((with_reducible refine wr_u64 rfl ?ha ?hb ?_); (case ha => exact gB); (case hb => exact gB)) | ((with_reducible refine wr_u32 rfl ?ha ?hb ?_); (case ha => exact gB); (case hb => exact gB)) | ((with_reducible refine And.intro ?_ ?_)) | ((with_reducible refine True.intro)) | ((with_reducible refine Stp.go ?_))))); (all_goals (conv => whnf))
      · refine ⟨k + 1, ⟨by omega, fun i hi => ?_⟩, by omega, ?_⟩
        · rcases Nat.lt_or_ge i k with h1 | h1
          · exact hinv i h1
          · rw [show i = k by omega, hp, hq, hc.1 h]
        · (refine Le.auto ?_; repeat' ((conv => whnf); first | with_reducible refine And.intro ?_ ?_ | with_reducible exact True.intro | rfl))
      · refine fin_f ?_ rfl
        have hab : a ≠ b := fun e => by
          subst e
          rw [hp] at hq; cases hq
          have hbt := hc.2 rfl
          subst hbt
          contradiction
        rw [decide_eq_false hab] at hK
        exact hK
    · have hab : a = b := ext_below (by omega) (by omega) hinv
      rw [decide_eq_true hab] at hK
      (all_goals (repeat' ((conv => whnf); first | ((with_reducible refine sl_full ?ha ?_); (case ha => exact gA)) | ((with_reducible refine Ob.intro ?ha ?_); (case ha => exact gC)) | ((with_reducible refine br_lt ?_)) | ((with_reducible refine br_lf ?_)) | ((with_reducible refine br_pos ?ha ?_); (case ha => exact gB)) | ((with_reducible refine br_neg ?ha ?_); (case ha => exact gB)) | ((with_reducible refine br_t ?ha ?_); (case ha => with_reducible assumption)) | ((with_reducible refine br_f ?ha ?_); (case ha => with_reducible assumption)) | ((with_reducible refine br_dec (fun h => ?_) (fun h => ?_))) | ((with_reducible refine br_not ?_)) | ((with_reducible refine br_b (fun h => ?_) (fun h => ?_))) | ((with_reducible refine wr_i64 rfl ?ha ?hb ?_); (case ha => exact gB); (case hb => exact gB)) | ((with_reducible refine wr_u64 rfl ?ha ?hb ?_); (case ha => exact gB); (case hb => exact gB)) | ((with_reducible refine wr_u32 rfl ?ha ?hb ?_); (case ha => exact gB); (case hb => exact gB)) | ((with_reducible refine And.intro ?_ ?_)) | ((with_reducible refine True.intro)) | ((with_reducible refine Stp.go ?_))))); (all_goals (conv => whnf))
      exact fin_t hK rfl
  · have hab : a ≠ b := fun e => h (by rw [e])
    rw [decide_eq_false hab] at hK
    exact .inl ⟨false, rfl, hK⟩
end Go.Proofs.YtgcplfplbcpemaaGreat

set_option linter.unusedVariables false
set_option linter.unusedSimpArgs false
set_option maxRecDepth 20000
namespace Go.Proofs.YtgcplfplbcpemaaGreat
open Go Go.Vm

/-- the planned edges with these bits, among the first k -/
def numAt (l : List Ed) (b : Int) (k : Nat) : Int := (((l.take k).filter fun e => e.pl && decide (e.pf.bits = b)).length : Int)
theorem numAt_succ {l : List Ed} {b : Int} {k : Nat} {e : Ed} (h : l[k]? = some e) : numAt l b (k + 1) = numAt l b k + (if e.pl = true ∧ e.pf.bits = b then 1 else 0) := by
  unfold numAt
  rw [List.take_add_one, h, List.filter_append, List.length_append]
  by_cases h1 : e.pl = true ∧ e.pf.bits = b
  · rw [if_pos h1]; simp [Option.toList, h1.1, h1.2]
  · rw [if_neg h1]
    cases h2 : e.pl <;> simp_all [Option.toList]
theorem numAt_le {l : List Ed} {b : Int} {k : Nat} : 0 ≤ numAt l b k ∧ numAt l b k ≤ l.length := by
  unfold numAt
  have := List.length_filter_le (fun e : Ed => e.pl && decide (e.pf.bits = b)) (l.take k)
  rw [List.length_take] at this
  omega
/-- the need, size by size -/
def needR (l : List Ed) : Nat → Int
  | 0 => 0
  | b + 1 => 2 * needR l b + numAt l ((b : Int) + 1) l.length
def plBits (l : List Ed) : List Int := (l.filter fun e => e.pl).map fun e => e.pf.bits
theorem needOf_step (bs : List Int) (h : ∀ x, x ∈ bs → 1 ≤ x) (b : Nat) : needOf bs ((b : Int) + 1) = 2 * needOf bs b + ((bs.filter fun x => decide (x = (b : Int) + 1)).length : Int) := by
  induction bs with
  | nil => simp [needOf_nil]
  | cons x bs ih =>
    have ih := ih fun y hy => h y (by simp [hy])
    rw [needOf_cons, needOf_cons, ih]
    rcases Int.lt_trichotomy x ((b : Int) + 1) with h1 | h1 | h1
    · rw [if_pos (by omega), if_pos (by omega), List.filter_cons, if_neg (by simp; omega), show ((b : Int) + 1 - x).toNat = ((b : Int) - x).toNat + 1 by omega, Nat.pow_succ]
      generalize 2 ^ ((b : Int) - x).toNat = q
      omega
    · rw [if_pos (by omega), if_neg (by omega), List.filter_cons, if_pos (by simp; omega), show ((b : Int) + 1 - x).toNat = 0 by omega, List.length_cons]
      simp only [Nat.pow_zero]
      omega
    · rw [if_neg (by omega), if_neg (by omega), List.filter_cons, if_neg (by simp; omega)]
      omega
theorem numAt_bits (l : List Ed) (b : Int) : numAt l b l.length = (((plBits l).filter fun x => decide (x = b)).length : Int) := by
  unfold numAt plBits
  rw [List.take_length, List.filter_map, List.length_map, List.filter_filter]
  congr 3
  funext e
  simp [Bool.and_comm]
theorem needR_eq (l : List Ed) (h : ∀ x, x ∈ plBits l → 1 ≤ x) : ∀ b : Nat, needR l b = needOf (plBits l) b
  | 0 => by rw [needOf_zero fun x hx => by have := h x hx; omega]; rfl
  | b + 1 => by
    rw [needR, needR_eq l h b, numAt_bits, show ((b + 1 : Nat) : Int) = (b : Int) + 1 by omega, needOf_step _ h]
theorem needR_le (l : List Ed) (hl : l.length ≤ 12) : ∀ b : Nat, 0 ≤ needR l b ∧ needR l b ≤ 12 * ((2 ^ b : Nat) : Int) - 12
  | 0 => by simp [needR]
  | b + 1 => by
    have := needR_le l hl b
    have := numAt_le (l := l) (b := (b : Int) + 1) (k := l.length)
    rw [needR, Nat.pow_succ]
    omega
theorem plIx_bits (t : Tp) : (plIx t.edges).map (bitsAt t) = plBits t.edges := by
  have key : ∀ l : List Ed, ((List.range l.length).filter (isPl l)).map (fun i => ((l[i]?).map fun e => e.pf.bits).getD 0) = plBits l := by
    intro l
    induction l with
    | nil => rfl
    | cons e l ih =>
      have h1 : (isPl (e :: l) ∘ Nat.succ) = isPl l := by funext i; simp [isPl]
      rw [List.length_cons, List.range_succ_eq_map, List.filter_cons, List.filter_map, h1, show isPl (e :: l) 0 = e.pl from rfl]
      unfold plBits at ih ⊢
      rw [List.filter_cons]
      cases e.pl
      · simp only [Bool.false_eq_true, if_false, List.map_map]
        exact ih
      · simp only [if_true, List.map_cons, List.map_map]
        congr 1
  exact key t.edges
/-- nsgref12.Fits -/
theorem cwFits (t : Tp) {K : AV → List Vm.Obj → Prop} (hK : K (.sb (topB t && (planOf t).isSome)) []) : ACall Tryz.prog 19 [encT t] [] K := by
  refine ACall.bool (ofwFits rfl rfl ?_)
  (all_goals (repeat' ((conv => whnf); first | (with_reducible refine cuVal t ?_) | ((with_reducible refine sl_full ?ha ?_); (case ha => exact gA)) | ((with_reducible refine Ob.intro ?ha ?_); (case ha => exact gC)) | ((with_reducible refine br_lt ?_)) | ((with_reducible refine br_lf ?_)) | ((with_reducible refine br_pos ?ha ?_); (case ha => exact gB)) | ((with_reducible refine br_neg ?ha ?_); (case ha => exact gB)) | ((with_reducible refine br_t ?ha ?_); (case ha => with_reducible assumption)) | ((with_reducible refine br_f ?ha ?_); (case ha => with_reducible assumption)) | ((with_reducible refine br_dec (fun h => ?_) (fun h => ?_))) | ((with_reducible refine br_not ?_)) | ((with_reducible refine br_b (fun h => ?_) (fun h => ?_))) | ((with_reducible refine wr_i64 rfl ?ha ?hb ?_); (case ha => exact gB); (case hb => exact gB)) | ((with_reducible refine wr_u64 rfl ?ha ?hb ?_); (case ha => exact gB); (case hb => exact gB)) | ((with_reducible refine wr_u32 rfl ?ha ?hb ?_); (case ha => exact gB); (case hb => exact gB)) | ((with_reducible refine And.intro ?_ ?_)) | ((with_reducible refine True.intro)) | ((with_reducible refine Stp.go ?_))))); (all_goals (conv => whnf))
  · have htb : topB t = true := h
    have ht := topB_iff.1 htb
    have := ht.e1; have := ht.p1
    have hfp : ∀ p, p ∈ t.pools → p.okP := fun p hp => by
      obtain ⟨i, hi⟩ := List.mem_iff_getElem?.1 hp
      exact (ht.pool i p hi).1
    have hfe : ∀ e, e ∈ t.edges → e.pf.okP := fun e hm => by
      obtain ⟨i, hi⟩ := List.mem_iff_getElem?.1 hm
      exact (ht.edge i e hi).1.2.2.2.2.2.1
    (all_goals (repeat' ((conv => whnf); first | (with_reducible refine cwFree t hfp hfe (by omega) (by omega) fun sp s1 s2 s3 => ?_) | ((with_reducible refine sl_full ?ha ?_); (case ha => exact gA)) | ((with_reducible refine Ob.intro ?ha ?_); (case ha => exact gC)) | ((with_reducible refine br_lt ?_)) | ((with_reducible refine br_lf ?_)) | ((with_reducible refine br_pos ?ha ?_); (case ha => exact gB)) | ((with_reducible refine br_neg ?ha ?_); (case ha => exact gB)) | ((with_reducible refine br_t ?ha ?_); (case ha => with_reducible assumption)) | ((with_reducible refine br_f ?ha ?_); (case ha => with_reducible assumption)) | ((with_reducible refine br_dec (fun h => ?_) (fun h => ?_))) | ((with_reducible refine br_not ?_)) | ((with_reducible refine br_b (fun h => ?_) (fun h => ?_))) | ((with_reducible refine wr_i64 rfl ?ha ?hb ?_); (case ha => exact gB); (case hb => exact gB)) | ((with_reducible refine wr_u64 rfl ?ha ?hb ?_); (case ha => exact gB); (case hb => exact gB)) | ((with_reducible refine wr_u32 rfl ?ha ?hb ?_); (case ha => exact gB); (case hb => exact gB)) | ((with_reducible refine And.intro ?_ ?_)) | ((with_reducible refine True.intro)) | ((with_reducible refine Stp.go ?_))))); (all_goals (conv => whnf))
    have hneed := needR_le t.edges (by omega)
    have hpl : ∀ (i : Nat) e, t.edges[i]? = some e → e.pl = true → 1 ≤ e.pf.bits ∧ e.pf.bits ≤ 32 := fun i e hi _ => ⟨(ht.edge i e hi).1.2.2.2.2.1, (ht.edge i e hi).1.2.2.2.2.2.1.2.1⟩
    have hpb : ∀ x, x ∈ plBits t.edges → 1 ≤ x := by
      intro x hx
      obtain ⟨e, he, rfl⟩ := List.mem_map.1 hx
      obtain ⟨he, hp⟩ := List.mem_filter.1 he
      obtain ⟨i, hi⟩ := List.mem_iff_getElem?.1 he
      exact (hpl i e hi hp).1
    have hfit := fits_iff ht hpl (s2 ▸ s1)
    refine Lp.intro Nat (fun k => ⟨1, [(0, boxT t)], [(1, .op 0 0), (3, encRs sp), (4, .v (.int .u64 (needR t.edges k))), (5, .v (.int .i64 ((k : Int) + 1)))]⟩) (fun k => k ≤ 32 ∧ ∀ j : Nat, 1 ≤ j → j ≤ k → needR t.edges j ≤ cnt sp (pz j)) (fun k => 32 - k) 0 ?_ ?_ ?_
    · exact ⟨Nat.zero_le _, fun j h1 h2 => by omega⟩
    · (refine Le.auto ?_; repeat' ((conv => whnf); first | with_reducible refine And.intro ?_ ?_ | with_reducible exact True.intro | rfl))
    intro k ⟨hk, hinv⟩
    rcases Nat.lt_or_ge k 32 with hk2 | hk2
    · have hn := hneed k
      have hpw := Nat.pow_le_pow_right (n := 2) (by omega) hk
      have hnum := fun i => numAt_le (l := t.edges) (b := (k : Int) + 1) (k := i)
      have h31 := Nat.pow_le_pow_right (n := 2) (by omega) (show k ≤ 31 by omega)
      (all_goals (repeat' ((conv => whnf); first | ((with_reducible refine sl_full ?ha ?_); (case ha => exact gA)) | ((with_reducible refine Ob.intro ?ha ?_); (case ha => exact gC)) | ((with_reducible refine br_lt ?_)) | ((with_reducible refine br_lf ?_)) | ((with_reducible refine br_pos ?ha ?_); (case ha => exact gB)) | ((with_reducible refine br_neg ?ha ?_); (case ha => exact gB)) | ((with_reducible refine br_t ?ha ?_); (case ha => with_reducible assumption)) | ((with_reducible refine br_f ?ha ?_); (case ha => with_reducible assumption)) | ((with_reducible refine br_dec (fun h => ?_) (fun h => ?_))) | ((with_reducible refine br_not ?_)) | ((with_reducible refine br_b (fun h => ?_) (fun h => ?_))) | ((with_reducible refine wr_i64 rfl ?ha ?hb ?_); (case ha => exact gB); (case hb => exact gB)) | ((with_reducible refine wr_u64 rfl ?ha ?hb ?_); (case ha => exact gB); (case hb => exact gB)) | ((with_reducible refine wr_u32 rfl ?ha ?hb ?_); (case ha => exact gB); (case hb => exact gB)) | ((with_reducible refine And.intro ?_ ?_)) | ((with_reducible refine True.intro)) | ((with_reducible refine Stp.go ?_))))); (all_goals (conv => whnf))
      refine Lp.intro Nat (fun i => ⟨1, [(0, boxT t)], [(1, .op 0 0), (3, encRs sp), (4, .v (.int .u64 (2 * needR t.edges k + numAt t.edges ((k : Int) + 1) i))), (5, .v (.int .i64 ((k : Int) + 1))), (6, .v (.int .i64 i))]⟩) (fun i => i ≤ t.edges.length) (fun i => t.edges.length - i) 0 ?_ ?_ ?_
      · exact Nat.zero_le _
      · have e0 : 2 * needR t.edges k + numAt t.edges ((k : Int) + 1) 0 = needR t.edges k * 2 := by unfold numAt; simp; omega
        rw [e0]
        (refine Le.auto ?_; repeat' ((conv => whnf); first | with_reducible refine And.intro ?_ ?_ | with_reducible exact True.intro | rfl))
      intro i hi
      rcases Nat.lt_or_ge i t.edges.length with hil | hil
      · obtain ⟨e, he⟩ : ∃ e, t.edges[i]? = some e := ⟨_, List.getElem?_eq_getElem hil⟩
        have hsucc := numAt_succ (b := (k : Int) + 1) he
        have hni := hnum i
        have hnext : ∀ σ x, x = 2 * needR t.edges k + numAt t.edges ((k : Int) + 1) (i + 1) → Le gwFits.np ⟨1, [(0, boxT t)], [(1, .op 0 0), (3, encRs sp), (4, .v (.int .u64 x)), (5, .v (.int .i64 ((k : Int) + 1))), (6, .v (.int .i64 ((i + 1 : Nat) : Int)))]⟩ σ →
            ∃ g' : Nat, g' ≤ t.edges.length ∧ t.edges.length - g' < t.edges.length - i ∧ Le gwFits.np ⟨1, [(0, boxT t)], [(1, .op 0 0), (3, encRs sp), (4, .v (.int .u64 (2 * needR t.edges k + numAt t.edges ((k : Int) + 1) g'))), (5, .v (.int .i64 ((k : Int) + 1))), (6, .v (.int .i64 g'))]⟩ σ := by
          intro σ x hx hle
          subst hx
          exact ⟨i + 1, by omega, by omega, hle⟩
        (all_goals (repeat' ((conv => whnf); first | (with_reducible refine in_map hil ?_) | (with_reducible refine ix_map he ?_) | ((with_reducible refine sl_full ?ha ?_); (case ha => exact gA)) | ((with_reducible refine Ob.intro ?ha ?_); (case ha => exact gC)) | ((with_reducible refine br_lt ?_)) | ((with_reducible refine br_lf ?_)) | ((with_reducible refine br_pos ?ha ?_); (case ha => exact gB)) | ((with_reducible refine br_neg ?ha ?_); (case ha => exact gB)) | ((with_reducible refine br_t ?ha ?_); (case ha => with_reducible assumption)) | ((with_reducible refine br_f ?ha ?_); (case ha => with_reducible assumption)) | ((with_reducible refine br_dec (fun h => ?_) (fun h => ?_))) | ((with_reducible refine br_not ?_)) | ((with_reducible refine br_b (fun h => ?_) (fun h => ?_))) | ((with_reducible refine wr_i64 rfl ?ha ?hb ?_); (case ha => exact gB); (case hb => exact gB)) | ((with_reducible refine wr_u64 rfl ?ha ?hb ?_); (case ha => exact gB); (case hb => exact gB)) | ((with_reducible refine wr_u32 rfl ?ha ?hb ?_); (case ha => exact gB); (case hb => exact gB)) | ((with_reducible refine And.intro ?_ ?_)) | ((with_reducible refine True.intro)) | ((with_reducible refine Stp.go ?_))))); (all_goals (conv => whnf))
        · refine hnext _ (2 * needR t.edges k + numAt t.edges ((k : Int) + 1) i + 1) (by rw [hsucc, if_pos (by simp_all)]; omega) ?_
          (refine Le.auto ?_; repeat' ((conv => whnf); first | with_reducible refine And.intro ?_ ?_ | with_reducible exact True.intro | rfl))
        · refine hnext _ (2 * needR t.edges k + numAt t.edges ((k : Int) + 1) i) (by rw [hsucc, if_neg (by simp_all)]; omega) ?_
          (refine Le.auto ?_; repeat' ((conv => whnf); first | with_reducible refine And.intro ?_ ?_ | with_reducible exact True.intro | rfl))
        · refine hnext _ (2 * needR t.edges k + numAt t.edges ((k : Int) + 1) i) (by rw [hsucc, if_neg (by simp_all)]; omega) ?_
          (refine Le.auto ?_; repeat' ((conv => whnf); first | with_reducible refine And.intro ?_ ?_ | with_reducible exact True.intro | rfl))
      · have ei : i = t.edges.length := by omega
        subst ei
        have eR : 2 * needR t.edges k + numAt t.edges ((k : Int) + 1) t.edges.length = needR t.edges (k + 1) := rfl
        rw [eR]
        have hn1 := hneed (k + 1)
        have hp0 := pz_pos ((k : Int) + 1)
        have hp1 := pz_le ((k : Int) + 1) (by omega)
        (all_goals (repeat' ((conv => whnf); first | (with_reducible refine wr_is (size_wrap _ (by omega) (by omega)) ?_) | ((with_reducible refine sl_full ?ha ?_); (case ha => exact gA)) | ((with_reducible refine Ob.intro ?ha ?_); (case ha => exact gC)) | ((with_reducible refine br_lt ?_)) | ((with_reducible refine br_lf ?_)) | ((with_reducible refine br_pos ?ha ?_); (case ha => exact gB)) | ((with_reducible refine br_neg ?ha ?_); (case ha => exact gB)) | ((with_reducible refine br_t ?ha ?_); (case ha => with_reducible assumption)) | ((with_reducible refine br_f ?ha ?_); (case ha => with_reducible assumption)) | ((with_reducible refine br_dec (fun h => ?_) (fun h => ?_))) | ((with_reducible refine br_not ?_)) | ((with_reducible refine br_b (fun h => ?_) (fun h => ?_))) | ((with_reducible refine wr_i64 rfl ?ha ?hb ?_); (case ha => exact gB); (case hb => exact gB)) | ((with_reducible refine wr_u64 rfl ?ha ?hb ?_); (case ha => exact gB); (case hb => exact gB)) | ((with_reducible refine wr_u32 rfl ?ha ?hb ?_); (case ha => exact gB); (case hb => exact gB)) | ((with_reducible refine And.intro ?_ ?_)) | ((with_reducible refine True.intro)) | ((with_reducible refine Stp.go ?_))))); (all_goals (conv => whnf))
        refine Lp.intro Nat (fun i => ⟨1, [(0, boxT t)], [(1, .op 0 0), (3, encRs sp), (4, .v (.int .u64 (needR t.edges (k + 1)))), (5, .v (.int .i64 ((k : Int) + 1))), (7, .v (.int .u64 (pz ((k : Int) + 1)))), (8, .v (.int .u64 (cnt (sp.take i) (pz ((k : Int) + 1))))), (9, .v (.int .i64 i))]⟩) (fun i => i ≤ sp.length ∧ cnt (sp.take i) (pz ((k : Int) + 1)) ≤ 4294967296 * i) (fun i => sp.length - i) 0 ?_ ?_ ?_
        · exact ⟨Nat.zero_le _, by simp [cnt_nil]⟩
        · (refine Le.auto ?_; repeat' ((conv => whnf); first | with_reducible refine And.intro ?_ ?_ | with_reducible exact True.intro | rfl))
        intro i ⟨hi, hc⟩
        have hc0 := cnt_pos (n := pz ((k : Int) + 1)) (l := sp.take i)
        rcases Nat.lt_or_ge i sp.length with hil | hil
        · obtain ⟨r, hr⟩ : ∃ r, sp[i]? = some r := ⟨_, List.getElem?_eq_getElem hil⟩
          have hsc : cnt (sp.take (i + 1)) (pz ((k : Int) + 1)) = cnt (sp.take i) (pz ((k : Int) + 1)) + blkN (pz ((k : Int) + 1)) r := by
            rw [List.take_add_one, hr, cnt_append]
            have : cnt (some r).toList (pz ((k : Int) + 1)) = blkN (pz ((k : Int) + 1)) r := by
              show blkN (pz ((k : Int) + 1)) r + 0 = _
              omega
            rw [this]
          have c1 := r.l0; have c2 := r.l1; have c3 := r.h0; have c4 := r.h1
          have q0 : 0 ≤ (r.lo + pz ((k : Int) + 1) - 1) / pz ((k : Int) + 1) := Int.ediv_nonneg (by omega) (by omega)
          have q1 : (r.lo + pz ((k : Int) + 1) - 1) / pz ((k : Int) + 1) ≤ 18446744073709551615 := Int.le_trans (Int.ediv_le_self _ (by omega)) (by omega)
          have q2 : 0 ≤ (r.hi + 1) / pz ((k : Int) + 1) := Int.ediv_nonneg (by omega) (by omega)
          have q3 : (r.hi + 1) / pz ((k : Int) + 1) ≤ 4294967296 := Int.le_trans (Int.ediv_le_self _ (by omega)) (by omega)
          (all_goals (repeat' ((conv => whnf); first | (with_reducible refine in_map hil ?_) | (with_reducible refine ix_map hr ?_) | (with_reducible refine Ob.intro (pz_ne _) ?_) | (with_reducible refine wr_u64 (Int.tdiv_eq_ediv_of_nonneg (show 0 ≤ r.lo + pz ((k : Int) + 1) - 1 by omega)) q0 q1 ?_) | (with_reducible refine wr_u64 (Int.tdiv_eq_ediv_of_nonneg (show 0 ≤ r.hi + 1 by omega)) q2 (by omega) ?_) | ((with_reducible refine sl_full ?ha ?_); (case ha => exact gA)) | ((with_reducible refine Ob.intro ?ha ?_); (case ha => exact gC)) | ((with_reducible refine br_lt ?_)) | ((with_reducible refine br_lf ?_)) | ((with_reducible refine br_pos ?ha ?_); (case ha => exact gB)) | ((with_reducible refine br_neg ?ha ?_); (case ha => exact gB)) | ((with_reducible refine br_t ?ha ?_); (case ha => with_reducible assumption)) | ((with_reducible refine br_f ?ha ?_); (case ha => with_reducible assumption)) | ((with_reducible refine br_dec (fun h => ?_) (fun h => ?_))) | ((with_reducible refine br_not ?_)) | ((with_reducible refine br_b (fun h => ?_) (fun h => ?_))) | ((with_reducible refine wr_i64 rfl ?ha ?hb ?_); (case ha => exact gB); (case hb => exact gB)) | ((with_reducible refine wr_u64 rfl ?ha ?hb ?_); (case ha => exact gB); (case hb => exact gB)) | ((with_reducible refine wr_u32 rfl ?ha ?hb ?_); (case ha => exact gB); (case hb => exact gB)) | ((with_reducible refine And.intro ?_ ?_)) | ((with_reducible refine True.intro)) | ((with_reducible refine Stp.go ?_))))); (all_goals (conv => whnf))
          · have hb : blkN (pz ((k : Int) + 1)) r = (r.hi + 1) / pz ((k : Int) + 1) - (r.lo + pz ((k : Int) + 1) - 1) / pz ((k : Int) + 1) := by unfold blkN; rw [if_pos h]
            refine ⟨i + 1, ⟨by omega, by rw [hsc, hb]; omega⟩, by omega, ?_⟩
            rw [hsc, hb]
            (refine Le.auto ?_; repeat' ((conv => whnf); first | with_reducible refine And.intro ?_ ?_ | with_reducible exact True.intro | rfl))
          · have hb : blkN (pz ((k : Int) + 1)) r = 0 := by unfold blkN; rw [if_neg h]
            refine ⟨i + 1, ⟨by omega, by rw [hsc, hb]; omega⟩, by omega, ?_⟩
            rw [hsc, hb, Int.add_zero]
            (refine Le.auto ?_; repeat' ((conv => whnf); first | with_reducible refine And.intro ?_ ?_ | with_reducible exact True.intro | rfl))
        · have et : sp.take i = sp := List.take_of_length_le hil
          rw [et]
          rw [et] at hc
          (all_goals (repeat' ((conv => whnf); first | ((with_reducible refine sl_full ?ha ?_); (case ha => exact gA)) | ((with_reducible refine Ob.intro ?ha ?_); (case ha => exact gC)) | ((with_reducible refine br_lt ?_)) | ((with_reducible refine br_lf ?_)) | ((with_reducible refine br_pos ?ha ?_); (case ha => exact gB)) | ((with_reducible refine br_neg ?ha ?_); (case ha => exact gB)) | ((with_reducible refine br_t ?ha ?_); (case ha => with_reducible assumption)) | ((with_reducible refine br_f ?ha ?_); (case ha => with_reducible assumption)) | ((with_reducible refine br_dec (fun h => ?_) (fun h => ?_))) | ((with_reducible refine br_not ?_)) | ((with_reducible refine br_b (fun h => ?_) (fun h => ?_))) | ((with_reducible refine wr_i64 rfl ?ha ?hb ?_); (case ha => exact gB); (case hb => exact gB)) | ((with_reducible refine wr_u64 rfl ?ha ?hb ?_); (case ha => exact gB); (case hb => exact gB)) | ((with_reducible refine wr_u32 rfl ?ha ?hb ?_); (case ha => exact gB); (case hb => exact gB)) | ((with_reducible refine And.intro ?_ ?_)) | ((with_reducible refine True.intro)) | ((with_reducible refine Stp.go ?_))))); (all_goals (conv => whnf))
          · have hno : (planOf t).isSome = false := by
              cases hp : (planOf t).isSome with
              | false => rfl
              | true =>
                have h1 := hfit.1 hp ((k : Int) + 1) (by omega) (by omega)
                rw [plIx_bits, ← s2] at h1
                have h2 := needR_eq _ hpb (k + 1)
                rw [show ((k + 1 : Nat) : Int) = (k : Int) + 1 by omega] at h2
                omega
            rw [hno, Bool.and_false] at hK
            exact fin_f hK rfl
          · refine ⟨k + 1, ⟨by omega, fun j j1 j2 => ?_⟩, by omega, ?_⟩
            · rcases Nat.lt_or_ge k j with h1 | h1
              · have : j = k + 1 := by omega
                subst this
                rw [show ((k + 1 : Nat) : Int) = (k : Int) + 1 by omega]
                omega
              · exact hinv j j1 h1
            · (refine Le.auto ?_; repeat' ((conv => whnf); first | with_reducible refine And.intro ?_ ?_ | with_reducible exact True.intro | rfl))
    · have hfin : (planOf t).isSome = true := hfit.2 fun b b1 b2 => by
        have h1 := hinv b.toNat (by omega) (by omega)
        rw [needR_eq _ hpb, show ((b.toNat : Nat) : Int) = b by omega] at h1
        rw [plIx_bits, ← s2]; exact h1
      rw [hfin, htb] at hK
      (all_goals (repeat' ((conv => whnf); first | ((with_reducible refine sl_full ?ha ?_); (case ha => exact gA)) | ((with_reducible refine Ob.intro ?ha ?_); (case ha => exact gC)) | ((with_reducible refine br_lt ?_)) | ((with_reducible refine br_lf ?_)) | ((with_reducible refine br_pos ?ha ?_); (case ha => exact gB)) | ((with_reducible refine br_neg ?ha ?_); (case ha => exact gB)) | ((with_reducible refine br_t ?ha ?_); (case ha => with_reducible assumption)) | ((with_reducible refine br_f ?ha ?_); (case ha => with_reducible assumption)) | ((with_reducible refine br_dec (fun h => ?_) (fun h => ?_))) | ((with_reducible refine br_not ?_)) | ((with_reducible refine br_b (fun h => ?_) (fun h => ?_))) | ((with_reducible refine wr_i64 rfl ?ha ?hb ?_); (case ha => exact gB); (case hb => exact gB)) | ((with_reducible refine wr_u64 rfl ?ha ?hb ?_); (case ha => exact gB); (case hb => exact gB)) | ((with_reducible refine wr_u32 rfl ?ha ?hb ?_); (case ha => exact gB); (case hb => exact gB)) | ((with_reducible refine And.intro ?_ ?_)) | ((with_reducible refine True.intro)) | ((with_reducible refine Stp.go ?_))))); (all_goals (conv => whnf))
      exact fin_t hK rfl
  · rw [h, Bool.false_and] at hK
    exact fin_f hK rfl
end Go.Proofs.YtgcplfplbcpemaaGreat

set_option linter.unusedVariables false
set_option linter.unusedSimpArgs false
set_option maxRecDepth 20000
namespace Go.Proofs.YtgcplfplbcpemaaGreat
open Go Go.Vm

structure WInv (t : Tp) (r : List Nat) (es : List Ed) : Prop where
  pinv : PInv t es (freeOf t.pools es)
  go : planGo r es (freeOf t.pools es) = planOf t
  old : ∀ i, i ∈ r → es[i]? = t.edges[i]?
  done : ∀ (i : Nat) e, i ∉ r → es[i]? = some e → e.pl = false
theorem WInv.miss {t : Tp} {B : Int} {i : Nat} {es : List Ed} {e : Ed} (h : WInv t (restOf t B i) es) (he : es[i]? = some e) (hc : ¬ (e.pl = true ∧ e.pf.bits = B)) : WInv t (restOf t B (i + 1)) es := by
  have : restOf t B i = restOf t B (i + 1) := restOf_miss fun e0 h1 h2 h3 => by
    have hm : i ∈ restOf t B i := restOf_mem.2 ⟨⟨e0, h1, h2⟩, .inr ⟨by simp [bitsAt, h1, h3], Nat.le_refl _⟩⟩
    have := h.old i hm
    rw [he, h1] at this
    cases this
    exact hc ⟨h2, h3⟩
  rw [← this]; exact h
theorem PInv.free {t : Tp} {es : List Ed} {sp : List Rg} (h : PInv t es sp) : freeOf t.pools es = sp := canonOf_eq h.can h.mem
theorem PInv.okP {t : Tp} {es : List Ed} {sp : List Rg} (h : PInv t es sp) (ht : ∀ e, e ∈ t.edges → e.pf.okP) : ∀ e, e ∈ es → e.pf.okP := by
  intro e he
  obtain ⟨i, hi⟩ := List.mem_iff_getElem?.1 he
  have hil := (List.getElem?_eq_some_iff.1 hi).1
  have hl := h.len
  obtain ⟨e0, h0⟩ : ∃ e0, t.edges[i]? = some e0 := ⟨_, List.getElem?_eq_getElem (by omega)⟩
  have hb := h.bits e he
  rcases h.at_ i e _ hi h0 with h1 | ⟨_, a, a0, a1, a2, a3, _⟩
  · rw [h1]; exact ht _ (List.mem_of_getElem? h0)
  · rw [a3] at hb ⊢
    simp only [mkPf_bits] at hb
    refine ⟨?_, ?_, ?_⟩
    · rw [mkPf_bits]; exact hb.1
    · rw [mkPf_bits]; exact hb.2
    · have := pz_pos e0.pf.bits
      rw [mkPf_bits, mkPf_addr a0 (by omega)]; exact a2
theorem WInv.at_ {t : Tp} {B : Int} {i : Nat} {es : List Ed} {e : Ed} (h : WInv t (restOf t B i) es) (he : es[i]? = some e) (hpl : e.pl = true) : t.edges[i]? = some e := by
  by_cases hm : i ∈ restOf t B i
  · rw [← h.old i hm]; exact he
  · have := h.done i e hm he
    rw [hpl] at this; cases this
theorem WInv.hit {t : Tp} {B : Int} {i : Nat} {es : List Ed} {e : Ed} {a : Int} (h : WInv t (restOf t B i) es) (he : es[i]? = some e) (hpl : e.pl = true) (hB : e.pf.bits = B) (ha : lowest (freeOf t.pools es) (pz B) = some a) :
    WInv t (restOf t B (i + 1)) (setE es i a) ∧ setE es i a = es.set i { e with pf := mkPf a B, pl := false } ∧ 0 ≤ a ∧ a ≤ 4294967295 := by
  have h0 := h.at_ he hpl
  subst hB
  have hr := restOf_hit h0 hpl
  have hso := restOf_so (t := t) (b := e.pf.bits) (i := i)
  obtain ⟨p1, p2, p3, p4, p5⟩ := h.pinv.step he hpl ha
  have hpz := pz_pos e.pf.bits
  have hgo := h.go
  rw [hr] at hso hgo
  have hso := (List.pairwise_cons.1 hso).1
  refine ⟨⟨by rw [p1.free]; exact p1, ?_, fun j hj => ?_, fun j o hj ho => ?_⟩, setE_at he a, p3, by omega⟩
  · rw [planGo, he] at hgo
    simp only [ha] at hgo
    rw [p1.free]; exact hgo
  · have hji : j ≠ i := fun e => by subst e; exact so_irr (hso _ hj)
    rw [setE_other hji]
    exact h.old j (by rw [hr]; exact List.mem_cons_of_mem _ hj)
  · by_cases hji : j = i
    · subst hji; rw [p2] at ho; cases ho; rfl
    · rw [setE_other hji] at ho
      exact h.done j o (by rw [hr]; simp [hji, hj]) ho
theorem WInv.full {t : Tp} {B : Int} {i : Nat} {es : List Ed} {e : Ed} (h : WInv t (restOf t B i) es) (he : es[i]? = some e) (hpl : e.pl = true) (hB : e.pf.bits = B) (ha : lowest (freeOf t.pools es) (pz B) = none) : planOf t = none := by
  have h0 := h.at_ he hpl
  subst hB
  have hgo := h.go
  rw [restOf_hit h0 hpl, planGo, he] at hgo
  simp only [ha] at hgo
  exact hgo.symm
/-- nsgref12.Plan -/
theorem cwPlan (t : Tp) {K : AV → List Vm.Obj → Prop} (hK : K (.tup [encT (planT t), .v (.int .i64 (planE t))]) []) : ACall Tryz.prog 16 [encT t] [] K := by
  refine ACall.weak (ofwPlan rfl rfl ?_)
  (all_goals (repeat' ((conv => whnf); first | (with_reducible refine cuVal t ?_) | ((with_reducible refine sl_full ?ha ?_); (case ha => exact gA)) | ((with_reducible refine Ob.intro ?ha ?_); (case ha => exact gC)) | ((with_reducible refine br_lt ?_)) | ((with_reducible refine br_lf ?_)) | ((with_reducible refine br_pos ?ha ?_); (case ha => exact gB)) | ((with_reducible refine br_neg ?ha ?_); (case ha => exact gB)) | ((with_reducible refine br_t ?ha ?_); (case ha => with_reducible assumption)) | ((with_reducible refine br_f ?ha ?_); (case ha => with_reducible assumption)) | ((with_reducible refine br_dec (fun h => ?_) (fun h => ?_))) | ((with_reducible refine br_not ?_)) | ((with_reducible refine br_b (fun h => ?_) (fun h => ?_))) | ((with_reducible refine wr_i64 rfl ?ha ?hb ?_); (case ha => exact gB); (case hb => exact gB)) | ((with_reducible refine wr_u64 rfl ?ha ?hb ?_); (case ha => exact gB); (case hb => exact gB)) | ((with_reducible refine wr_u32 rfl ?ha ?hb ?_); (case ha => exact gB); (case hb => exact gB)) | ((with_reducible refine And.intro ?_ ?_)) | ((with_reducible refine True.intro)) | ((with_reducible refine Stp.go ?_))))); (all_goals (conv => whnf))
  · have ht := topB_iff.1 h
    have := ht.d1; have := ht.l1; have := ht.e1; have := ht.p1
    (all_goals (repeat' ((conv => whnf); first | (with_reducible refine Ob.intro ⟨by rw [List.length_map]; omega, by rw [List.forall_mem_map]; intro _ _; rfl⟩ ?_) | ((with_reducible refine sl_full ?ha ?_); (case ha => exact gA)) | ((with_reducible refine Ob.intro ?ha ?_); (case ha => exact gC)) | ((with_reducible refine br_lt ?_)) | ((with_reducible refine br_lf ?_)) | ((with_reducible refine br_pos ?ha ?_); (case ha => exact gB)) | ((with_reducible refine br_neg ?ha ?_); (case ha => exact gB)) | ((with_reducible refine br_t ?ha ?_); (case ha => with_reducible assumption)) | ((with_reducible refine br_f ?ha ?_); (case ha => with_reducible assumption)) | ((with_reducible refine br_dec (fun h => ?_) (fun h => ?_))) | ((with_reducible refine br_not ?_)) | ((with_reducible refine br_b (fun h => ?_) (fun h => ?_))) | ((with_reducible refine wr_i64 rfl ?ha ?hb ?_); (case ha => exact gB); (case hb => exact gB)) | ((with_reducible refine wr_u64 rfl ?ha ?hb ?_); (case ha => exact gB); (case hb => exact gB)) | ((with_reducible refine wr_u32 rfl ?ha ?hb ?_); (case ha => exact gB); (case hb => exact gB)) | ((with_reducible refine And.intro ?_ ?_)) | ((with_reducible refine True.intro)) | ((with_reducible refine Stp.go ?_))))); (all_goals (conv => whnf))
    have el : 0 + (t.edges.map encE).length = t.edges.length := by rw [List.length_map]; omega
    rw [el, List.nil_append]
    refine Lp.intro (Nat × List Ed) (fun g => ⟨3, [(0, boxO t 2 t.edges.length), (1, boxZ), (2, .arr 6 (g.2.map encE))], [(1, .op 0 0), (2, .op 1 0), (4, .v (.int .i64 ((g.1 : Int) + 1)))]⟩) (fun g => g.1 ≤ 32 ∧ WInv t (restOf t ((g.1 : Int) + 1) 0) g.2) (fun g => 32 - g.1) (0, t.edges) ?_ ?_ ?_
    · have hall : restOf t (((0 : Nat) : Int) + 1) 0 = ordOf t := restOf_all fun i e hi _ => (ht.edge i e hi).1.2.2.2.2.1
      refine ⟨Nat.zero_le _, ?_⟩
      simp only
      rw [hall]
      exact ⟨pinv_start ht, rfl, fun i _ => rfl, fun i e hn hi => by
        cases hp : e.pl with
        | false => rfl
        | true => exact absurd (ordOf_mem.2 ⟨e, hi, hp⟩) hn⟩
    · (refine Le.auto ?_; repeat' ((conv => whnf); first | with_reducible refine And.intro ?_ ?_ | with_reducible exact True.intro | rfl))
    rintro ⟨b, es⟩ ⟨hb, hw⟩
    simp only at hb hw ⊢
    rcases Nat.lt_or_ge b 32 with hb2 | hb2
    · (all_goals (repeat' ((conv => whnf); first | ((with_reducible refine sl_full ?ha ?_); (case ha => exact gA)) | ((with_reducible refine Ob.intro ?ha ?_); (case ha => exact gC)) | ((with_reducible refine br_lt ?_)) | ((with_reducible refine br_lf ?_)) | ((with_reducible refine br_pos ?ha ?_); (case ha => exact gB)) | ((with_reducible refine br_neg ?ha ?_); (case ha => exact gB)) | ((with_reducible refine br_t ?ha ?_); (case ha => with_reducible assumption)) | ((with_reducible refine br_f ?ha ?_); (case ha => with_reducible assumption)) | ((with_reducible refine br_dec (fun h => ?_) (fun h => ?_))) | ((with_reducible refine br_not ?_)) | ((with_reducible refine br_b (fun h => ?_) (fun h => ?_))) | ((with_reducible refine wr_i64 rfl ?ha ?hb ?_); (case ha => exact gB); (case hb => exact gB)) | ((with_reducible refine wr_u64 rfl ?ha ?hb ?_); (case ha => exact gB); (case hb => exact gB)) | ((with_reducible refine wr_u32 rfl ?ha ?hb ?_); (case ha => exact gB); (case hb => exact gB)) | ((with_reducible refine And.intro ?_ ?_)) | ((with_reducible refine True.intro)) | ((with_reducible refine Stp.go ?_))))); (all_goals (conv => whnf))
      refine Lp.intro (Nat × List Ed) (fun g => ⟨3, [(0, boxO t 2 t.edges.length), (1, boxZ), (2, .arr 6 (g.2.map encE))], [(1, .op 0 0), (2, .op 1 0), (4, .v (.int .i64 ((b : Int) + 1))), (5, .v (.int .i64 g.1))]⟩) (fun g => g.1 ≤ t.edges.length ∧ WInv t (restOf t ((b : Int) + 1) g.1) g.2) (fun g => t.edges.length - g.1) (0, es) ?_ ?_ ?_
      · exact ⟨Nat.zero_le _, hw⟩
      · (refine Le.auto ?_; repeat' ((conv => whnf); first | with_reducible refine And.intro ?_ ?_ | with_reducible exact True.intro | rfl))
      rintro ⟨i, es2⟩ ⟨hi, hw2⟩
      simp only at hi hw2 ⊢
      have hlen := hw2.pinv.len
      rcases Nat.lt_or_ge i t.edges.length with hil | hil
      · obtain ⟨e, he⟩ : ∃ e, es2[i]? = some e := ⟨_, List.getElem?_eq_getElem (by omega)⟩
        have he0 : es2[0 + i]? = some e := by rw [Nat.zero_add]; exact he
        (all_goals (repeat' ((conv => whnf); first | (with_reducible refine in_nat hil ?_) | (with_reducible refine ix_map he0 ?_) | ((with_reducible refine sl_full ?ha ?_); (case ha => exact gA)) | ((with_reducible refine Ob.intro ?ha ?_); (case ha => exact gC)) | ((with_reducible refine br_lt ?_)) | ((with_reducible refine br_lf ?_)) | ((with_reducible refine br_pos ?ha ?_); (case ha => exact gB)) | ((with_reducible refine br_neg ?ha ?_); (case ha => exact gB)) | ((with_reducible refine br_t ?ha ?_); (case ha => with_reducible assumption)) | ((with_reducible refine br_f ?ha ?_); (case ha => with_reducible assumption)) | ((with_reducible refine br_dec (fun h => ?_) (fun h => ?_))) | ((with_reducible refine br_not ?_)) | ((with_reducible refine br_b (fun h => ?_) (fun h => ?_))) | ((with_reducible refine wr_i64 rfl ?ha ?hb ?_); (case ha => exact gB); (case hb => exact gB)) | ((with_reducible refine wr_u64 rfl ?ha ?hb ?_); (case ha => exact gB); (case hb => exact gB)) | ((with_reducible refine wr_u32 rfl ?ha ?hb ?_); (case ha => exact gB); (case hb => exact gB)) | ((with_reducible refine And.intro ?_ ?_)) | ((with_reducible refine True.intro)) | ((with_reducible refine Stp.go ?_))))); (all_goals (conv => whnf))
        · have hfp : ∀ p, p ∈ t.pools → p.okP := fun p hp => by
            obtain ⟨i, hi⟩ := List.mem_iff_getElem?.1 hp
            exact (ht.pool i p hi).1
          have hfe : ∀ e, e ∈ es2 → e.pf.okP := hw2.pinv.okP fun e hm => by
            obtain ⟨i, hi⟩ := List.mem_iff_getElem?.1 hm
            exact (ht.edge i e hi).1.2.2.2.2.2.1
          have hfr : ∀ {K : AV → List Vm.Obj → Prop}, (∀ out, Canon out → out = freeOf t.pools es2 → out.length ≤ 100 → K (.os 0 2 0 out.length) [.arr 2 (out.map encR)]) → ACall Tryz.prog 37 [.agg [.lst (t.devs.map encD), .lst (t.links.map encL), .lst (es2.map encE), .lst (t.pools.map encP), .v (.int .i64 t.tol)]] [] K := fun hK => cwFreeR { t with edges := es2 } hfp hfe (by simp only; omega) (by simp only; omega) hK
          have hset : 0 + i < (es2.map encE).length := by rw [List.length_map]; omega
          have hset0 : 0 + i < es2.length := by omega
          (all_goals (repeat' ((conv => whnf); first | (with_reducible refine hfr fun sp s1 s2 s3 => ?_) | (with_reducible refine cwLow sp _ (by omega) (by omega) (by omega) (fun hno => ?_) (fun a ha a0 a1 => ?_)) | (with_reducible refine in_nat hil ?_) | (with_reducible refine ix_map he0 ?_) | (with_reducible refine ix_set hset ?_) | ((with_reducible refine sl_full ?ha ?_); (case ha => exact gA)) | ((with_reducible refine Ob.intro ?ha ?_); (case ha => exact gC)) | ((with_reducible refine br_lt ?_)) | ((with_reducible refine br_lf ?_)) | ((with_reducible refine br_pos ?ha ?_); (case ha => exact gB)) | ((with_reducible refine br_neg ?ha ?_); (case ha => exact gB)) | ((with_reducible refine br_t ?ha ?_); (case ha => with_reducible assumption)) | ((with_reducible refine br_f ?ha ?_); (case ha => with_reducible assumption)) | ((with_reducible refine br_dec (fun h => ?_) (fun h => ?_))) | ((with_reducible refine br_not ?_)) | ((with_reducible refine br_b (fun h => ?_) (fun h => ?_))) | ((with_reducible refine wr_i64 rfl ?ha ?hb ?_); (case ha => exact gB); (case hb => exact gB)) | ((with_reducible refine wr_u64 rfl ?ha ?hb ?_); (case ha => exact gB); (case hb => exact gB)) | ((with_reducible refine wr_u32 rfl ?ha ?hb ?_); (case ha => exact gB); (case hb => exact gB)) | ((with_reducible refine And.intro ?_ ?_)) | ((with_reducible refine True.intro)) | ((with_reducible refine Stp.go ?_))))); (all_goals (conv => whnf))
          · rw [s2] at hno
            refine ⟨.tup [encT noTop, .v (.int .i64 9)], Weak.tup2 (Weak.agg ⟨Weak.nils, Weak.nils, Weak.nils, Weak.nils, Weak.refl, trivial⟩) Weak.refl, ?_⟩
            rw [planT, planE, topB_true ht, hw2.full he (by assumption) (by assumption) hno] at hK
            exact hK
          all_goals
            rw [s2] at ha
            obtain ⟨w1, w2, w3, w4⟩ := hw2.hit he (by assumption) (by assumption) ha
            refine ⟨(i + 1, setE es2 i a), ⟨by simp only; omega, w1⟩, by simp only; omega, ?_⟩
            simp only
            have henc : ((es2.map encE).set (0 + i) (.agg [.v (.string e.name), .v (.int .i64 e.dev), .v (.string e.zone), .v (.int .u32 a), .v (.int .i64 ((b : Int) + 1)), .sb e.pl])).set (0 + i)
                (.agg [.v (.string e.name), .v (.int .i64 e.dev), .v (.string e.zone), .v (.int .u32 a), .v (.int .i64 ((b : Int) + 1)), .sb false]) = (setE es2 i a).map encE := by
              rw [List.set_set, w2, List.map_set, Nat.zero_add]
              simp only [encE, mkPf_addr w3 w4, mkPf_bits]
            rw [← henc]
            (refine Le.auto ?_; repeat' ((conv => whnf); first | with_reducible refine And.intro ?_ ?_ | with_reducible exact True.intro | rfl))
        · refine ⟨(i + 1, es2), ⟨by simp only; omega, hw2.miss he (by simp_all)⟩, by simp only; omega, ?_⟩
          simp only
          (refine Le.auto ?_; repeat' ((conv => whnf); first | with_reducible refine And.intro ?_ ?_ | with_reducible exact True.intro | rfl))
        · refine ⟨(i + 1, es2), ⟨by simp only; omega, hw2.miss he (by simp_all)⟩, by simp only; omega, ?_⟩
          simp only
          (refine Le.auto ?_; repeat' ((conv => whnf); first | with_reducible refine And.intro ?_ ?_ | with_reducible exact True.intro | rfl))
      · have er : restOf t ((b : Int) + 1) i = restOf t (((b + 1 : Nat) : Int) + 1) 0 := by rw [restOf_next hil, show ((b + 1 : Nat) : Int) + 1 = (b : Int) + 1 + 1 by omega]
        rw [er] at hw2
        (all_goals (repeat' ((conv => whnf); first | ((with_reducible refine sl_full ?ha ?_); (case ha => exact gA)) | ((with_reducible refine Ob.intro ?ha ?_); (case ha => exact gC)) | ((with_reducible refine br_lt ?_)) | ((with_reducible refine br_lf ?_)) | ((with_reducible refine br_pos ?ha ?_); (case ha => exact gB)) | ((with_reducible refine br_neg ?ha ?_); (case ha => exact gB)) | ((with_reducible refine br_t ?ha ?_); (case ha => with_reducible assumption)) | ((with_reducible refine br_f ?ha ?_); (case ha => with_reducible assumption)) | ((with_reducible refine br_dec (fun h => ?_) (fun h => ?_))) | ((with_reducible refine br_not ?_)) | ((with_reducible refine br_b (fun h => ?_) (fun h => ?_))) | ((with_reducible refine wr_i64 rfl ?ha ?hb ?_); (case ha => exact gB); (case hb => exact gB)) | ((with_reducible refine wr_u64 rfl ?ha ?hb ?_); (case ha => exact gB); (case hb => exact gB)) | ((with_reducible refine wr_u32 rfl ?ha ?hb ?_); (case ha => exact gB); (case hb => exact gB)) | ((with_reducible refine And.intro ?_ ?_)) | ((with_reducible refine True.intro)) | ((with_reducible refine Stp.go ?_))))); (all_goals (conv => whnf))
        refine ⟨(b + 1, es2), ⟨by simp only; omega, hw2⟩, by simp only; omega, ?_⟩
        simp only
        (refine Le.auto ?_; repeat' ((conv => whnf); first | with_reducible refine And.intro ?_ ?_ | with_reducible exact True.intro | rfl))
    · have hr : restOf t ((b : Int) + 1) 0 = [] := by
        rw [show (b : Int) + 1 = 33 by omega]
        exact restOf_end fun i e hi _ => (ht.edge i e hi).1.2.2.2.2.2.1.2.1
      have hgo := hw.go
      rw [hr] at hgo
      have hpn : planOf t = some es := hgo.symm
      have hle := hw.pinv.len
      (all_goals (repeat' ((conv => whnf); first | ((with_reducible refine sl_full ?ha ?_); (case ha => exact gA)) | ((with_reducible refine Ob.intro ?ha ?_); (case ha => exact gC)) | ((with_reducible refine br_lt ?_)) | ((with_reducible refine br_lf ?_)) | ((with_reducible refine br_pos ?ha ?_); (case ha => exact gB)) | ((with_reducible refine br_neg ?ha ?_); (case ha => exact gB)) | ((with_reducible refine br_t ?ha ?_); (case ha => with_reducible assumption)) | ((with_reducible refine br_f ?ha ?_); (case ha => with_reducible assumption)) | ((with_reducible refine br_dec (fun h => ?_) (fun h => ?_))) | ((with_reducible refine br_not ?_)) | ((with_reducible refine br_b (fun h => ?_) (fun h => ?_))) | ((with_reducible refine wr_i64 rfl ?ha ?hb ?_); (case ha => exact gB); (case hb => exact gB)) | ((with_reducible refine wr_u64 rfl ?ha ?hb ?_); (case ha => exact gB); (case hb => exact gB)) | ((with_reducible refine wr_u32 rfl ?ha ?hb ?_); (case ha => exact gB); (case hb => exact gB)) | ((with_reducible refine And.intro ?_ ?_)) | ((with_reducible refine True.intro)) | ((with_reducible refine Stp.go ?_))))); (all_goals (conv => whnf))
      refine ⟨_, Weak.refl, ?_⟩
      rw [planT, planE, h, hpn] at hK
      exact hK
  · refine ⟨.tup [encT noTop, .v (.int .i64 1)], Weak.tup2 (Weak.agg ⟨Weak.nils, Weak.nils, Weak.nils, Weak.nils, Weak.refl, trivial⟩) Weak.refl, ?_⟩
    rw [planT, planE, h] at hK
    exact hK
end Go.Proofs.YtgcplfplbcpemaaGreat

set_option linter.unusedVariables false
set_option linter.unusedSimpArgs false
set_option maxRecDepth 20000
namespace Go.Proofs.YtgcplfplbcpemaaGreat
open Go Go.Vm

theorem planT_small (t : Tp) : (planT t).devs.length < 1000000 ∧ (planT t).links.length < 1000000 ∧ (planT t).edges.length < 1000000 ∧ (planT t).pools.length < 1000000 := by
  rw [planT]
  split
  · rename_i es h1 h2
    have ht := topB_iff.1 h1
    have := ht.d1; have := ht.l1; have := ht.e1; have := ht.p1
    obtain ⟨_, _, h3, _⟩ := plan_valid ht h2
    simp only
    omega
  · decide
theorem freePf_small (t : Tp) : (freePf t).length < 1000000000000 := by
  rw [freePf]
  split
  · rename_i h
    have ht := topB_iff.1 h
    have := ht.e1; have := ht.p1
    have hfp : ∀ p, p ∈ t.pools → p.okP := fun p hp => by
      obtain ⟨i, hi⟩ := List.mem_iff_getElem?.1 hp
      exact (ht.pool i p hi).1
    have hfe : ∀ e, e ∈ t.edges → e.pf.okP := fun e hm => by
      obtain ⟨i, hi⟩ := List.mem_iff_getElem?.1 hm
      exact (ht.edge i e hi).1.2.2.2.2.2.1
    have := free_len (freeOf_spec hfp hfe).1
    omega
  · decide
/-- nsglaw12.plans -/
theorem cplans (t : Tp) {K : AV → List Vm.Obj → Prop} (hK : K (.sb true) []) : ACall Tryz.prog 7 [encT t] [] K := by
  refine ACall.bool (ofplans12 rfl rfl ?_)
  (all_goals (repeat' ((conv => whnf); first | (with_reducible refine cplan t ?_) | (with_reducible refine cwPlan t ?_) | (with_reducible refine cuSame (planT t) (planT t) (planT_small t) fun b hb => ?_) | (with_reducible refine cfits t ?_) | (with_reducible refine cwFits t ?_) | (with_reducible refine caFreeP t ?_) | (with_reducible refine cwFreeP t ?_) | (with_reducible refine csame12 (freePf t) (freePf t) (freePf_small t) (freePf_small t) ?_) | ((with_reducible refine sl_full ?ha ?_); (case ha => exact gA)) | ((with_reducible refine Ob.intro ?ha ?_); (case ha => exact gC)) | ((with_reducible refine br_lt ?_)) | ((with_reducible refine br_lf ?_)) | ((with_reducible refine br_pos ?ha ?_); (case ha => exact gB)) | ((with_reducible refine br_neg ?ha ?_); (case ha => exact gB)) | ((with_reducible refine br_t ?ha ?_); (case ha => with_reducible assumption)) | ((with_reducible refine br_f ?ha ?_); (case ha => with_reducible assumption)) | ((with_reducible refine br_dec (fun h => ?_) (fun h => ?_))) | ((with_reducible refine br_not ?_)) | ((with_reducible refine br_b (fun h => ?_) (fun h => ?_))) | ((with_reducible refine wr_i64 rfl ?ha ?hb ?_); (case ha => exact gB); (case hb => exact gB)) | ((with_reducible refine wr_u64 rfl ?ha ?hb ?_); (case ha => exact gB); (case hb => exact gB)) | ((with_reducible refine wr_u32 rfl ?ha ?hb ?_); (case ha => exact gB); (case hb => exact gB)) | ((with_reducible refine And.intro ?_ ?_)) | ((with_reducible refine True.intro)) | ((with_reducible refine Stp.go ?_))))); (all_goals (conv => whnf))
  · exact .inr ⟨_, rfl, by rw [decide_eq_true rfl]; exact hK⟩
  · exfalso
    rw [planE] at h
    cases htb : topB t <;> cases hpo : planOf t <;> simp [htb, hpo] at h
  · exfalso
    have := hb.2 rfl
    rw [h] at this; cases this
end Go.Proofs.YtgcplfplbcpemaaGreat

