/- The functions of the seat as the machine takes them: contexts, bodies, contracts out of the code. Printed by gsctx.py. -/
import Derived.Test.YtkpnlmainmlogaaVmK
import Derived.Test.YtkpnlmainmlogaaProg
set_option linter.unusedVariables false
namespace Go.Proofs.Ytkpnlmainmlogaa
open Go Go.Vm

/-- netsegment/interval.Size -/
noncomputable def g17 : Ctx := { N := 25, np := 0, own := fun _ => false, plan := fun _ => none, hints := fun _ => [], cut := fun _ => false }
noncomputable def b17 : Code := match Try.f17.body with | some c => c | none => .skip
theorem of17 {args : List AV} {hs : List Vm.Obj} {K : AV → List Vm.Obj → Prop} (hp : Nat.beq g17.np hs.length = true) (ha : Nat.ble args.length 25 = true) (hq : codeQ Try.prog g17 b17 ⟨hs.length, enumH 0 hs, slotsOf 0 args⟩ (retQ Try.prog g17 Try.f17.results.toList K)) : ACall Try.prog 17 args hs K :=
  ACall.of_code (Γ := g17) Try.func17 (by kernel_rfl) (by kernel_rfl) (by kernel_rfl) (by kernel_rfl) (Nat.eq_of_beq_eq_true hp) ha hq
/-- netsegment/interval.Nth -/
noncomputable def g20 : Ctx := { N := 36, np := 0, own := fun _ => false, plan := fun _ => none, hints := fun _ => [], cut := fun _ => false }
noncomputable def b20 : Code := match Try.f20.body with | some c => c | none => .skip
theorem of20 {args : List AV} {hs : List Vm.Obj} {K : AV → List Vm.Obj → Prop} (hp : Nat.beq g20.np hs.length = true) (ha : Nat.ble args.length 36 = true) (hq : codeQ Try.prog g20 b20 ⟨hs.length, enumH 0 hs, slotsOf 0 args⟩ (retQ Try.prog g20 Try.f20.results.toList K)) : ACall Try.prog 20 args hs K :=
  ACall.of_code (Γ := g20) Try.func20 (by kernel_rfl) (by kernel_rfl) (by kernel_rfl) (by kernel_rfl) (Nat.eq_of_beq_eq_true hp) ha hq
/-- netsegment/interval.Normal -/
noncomputable def g30 : Ctx := { N := 28, np := 0, own := fun _ => false, plan := fun _ => none, hints := fun _ => [], cut := fun _ => false }
noncomputable def b30 : Code := match Try.f30.body with | some c => c | none => .skip
theorem of30 {args : List AV} {hs : List Vm.Obj} {K : AV → List Vm.Obj → Prop} (hp : Nat.beq g30.np hs.length = true) (ha : Nat.ble args.length 28 = true) (hq : codeQ Try.prog g30 b30 ⟨hs.length, enumH 0 hs, slotsOf 0 args⟩ (retQ Try.prog g30 Try.f30.results.toList K)) : ACall Try.prog 30 args hs K :=
  ACall.of_code (Γ := g30) Try.func30 (by kernel_rfl) (by kernel_rfl) (by kernel_rfl) (by kernel_rfl) (Nat.eq_of_beq_eq_true hp) ha hq
/-- netsegment/interval.Subtract -/
noncomputable def g24 : Ctx := { N := 9, np := 0, own := fun _ => false, plan := fun _ => none, hints := fun _ => [], cut := fun _ => false }
noncomputable def b24 : Code := match Try.f24.body with | some c => c | none => .skip
theorem of24 {args : List AV} {hs : List Vm.Obj} {K : AV → List Vm.Obj → Prop} (hp : Nat.beq g24.np hs.length = true) (ha : Nat.ble args.length 9 = true) (hq : codeQ Try.prog g24 b24 ⟨hs.length, enumH 0 hs, slotsOf 0 args⟩ (retQ Try.prog g24 Try.f24.results.toList K)) : ACall Try.prog 24 args hs K :=
  ACall.of_code (Γ := g24) Try.func24 (by kernel_rfl) (by kernel_rfl) (by kernel_rfl) (by kernel_rfl) (Nat.eq_of_beq_eq_true hp) ha hq
/-- netsegment/interval.Subset -/
noncomputable def g27 : Ctx := { N := 10, np := 0, own := fun _ => false, plan := fun _ => none, hints := fun _ => [], cut := fun _ => false }
noncomputable def b27 : Code := match Try.f27.body with | some c => c | none => .skip
theorem of27 {args : List AV} {hs : List Vm.Obj} {K : AV → List Vm.Obj → Prop} (hp : Nat.beq g27.np hs.length = true) (ha : Nat.ble args.length 10 = true) (hq : codeQ Try.prog g27 b27 ⟨hs.length, enumH 0 hs, slotsOf 0 args⟩ (retQ Try.prog g27 Try.f27.results.toList K)) : ACall Try.prog 27 args hs K :=
  ACall.of_code (Γ := g27) Try.func27 (by kernel_rfl) (by kernel_rfl) (by kernel_rfl) (by kernel_rfl) (Nat.eq_of_beq_eq_true hp) ha hq
/-- netsegment/interval.Intersect -/
noncomputable def g19 : Ctx := { N := 71, np := 0, own := fun _ => false, plan := fun i => match Nat.beq i 5 with | true => some (lin [(0, true), (1, true), (2, true), (3, true), (4, true), (5, true), (6, true), (7, true), (8, true), (9, true), (10, true), (11, true), (12, true), (13, true), (14, true), (15, true), (16, true), (17, true), (18, true), (19, true), (20, true), (21, true), (22, true), (23, true)]) | false => match Nat.beq i 8 with | true => some (lin [(0, true), (1, true), (2, true), (3, true), (4, true), (5, true), (6, true), (7, true), (8, true), (9, true), (10, true)]) | false => none, hints := fun i => match Nat.beq i 3 with | true => [.virt 5 2] | false => [], cut := fun _ => false }
noncomputable def b19 : Code := match Try.f19.body with | some c => c | none => .skip
theorem of19 {args : List AV} {hs : List Vm.Obj} {K : AV → List Vm.Obj → Prop} (hp : Nat.beq g19.np hs.length = true) (ha : Nat.ble args.length 71 = true) (hq : codeQ Try.prog g19 b19 ⟨hs.length, enumH 0 hs, slotsOf 0 args⟩ (retQ Try.prog g19 Try.f19.results.toList K)) : ACall Try.prog 19 args hs K :=
  ACall.of_code (Γ := g19) Try.func19 (by kernel_rfl) (by kernel_rfl) (by kernel_rfl) (by kernel_rfl) (Nat.eq_of_beq_eq_true hp) ha hq
/-- netsegment/interval.Complement -/
noncomputable def g23 : Ctx := { N := 51, np := 0, own := fun _ => false, plan := fun _ => none, hints := fun i => match Nat.beq i 2 with | true => [.virt 5 2] | false => [], cut := fun _ => false }
noncomputable def b23 : Code := match Try.f23.body with | some c => c | none => .skip
theorem of23 {args : List AV} {hs : List Vm.Obj} {K : AV → List Vm.Obj → Prop} (hp : Nat.beq g23.np hs.length = true) (ha : Nat.ble args.length 51 = true) (hq : codeQ Try.prog g23 b23 ⟨hs.length, enumH 0 hs, slotsOf 0 args⟩ (retQ Try.prog g23 Try.f23.results.toList K)) : ACall Try.prog 23 args hs K :=
  ACall.of_code (Γ := g23) Try.func23 (by kernel_rfl) (by kernel_rfl) (by kernel_rfl) (by kernel_rfl) (Nat.eq_of_beq_eq_true hp) ha hq

end Go.Proofs.Ytkpnlmainmlogaa
