/- The functions of the seat as the machine takes them: contexts, bodies, contracts out of the code. Printed by gsctx.py. -/
import Derived.Test.YtkpnlmainmlogaaVmK
import Derived.Test.YtkpnlmainmlogaaProg
set_option linter.unusedVariables false
namespace Go.Proofs.Ytkpnlmainmlogaa
open Go Go.Vm

/-- netsegment/interval.Contains -/
noncomputable def g21 : Ctx := { N := 8, np := 0, own := fun _ => false, plan := fun _ => none, hints := fun _ => [], cut := fun _ => false }
noncomputable def b21 : Code := match Try.f21.body with | some c => c | none => .skip
theorem of21 {args : List AV} {hs : List Vm.Obj} {K : AV → List Vm.Obj → Prop} (hp : Nat.beq g21.np hs.length = true) (ha : Nat.ble args.length 8 = true) (hq : codeQ Try.prog g21 b21 ⟨hs.length, enumH 0 hs, slotsOf 0 args⟩ (retQ Try.prog g21 Try.f21.results.toList K)) : ACall Try.prog 21 args hs K :=
  ACall.of_code (Γ := g21) Try.func21 (by kernel_rfl) (by kernel_rfl) (by kernel_rfl) (by kernel_rfl) (Nat.eq_of_beq_eq_true hp) ha hq
/-- slices.ContainsFunc[[]netsegment/api.Range,netsegment/api.Range] -/
noncomputable def g41 : Ctx := { N := 9, np := 0, own := fun _ => false, plan := fun _ => none, hints := fun _ => [], cut := fun _ => false }
noncomputable def b41 : Code := match Try.f41.body with | some c => c | none => .skip
theorem of41 {args : List AV} {hs : List Vm.Obj} {K : AV → List Vm.Obj → Prop} (hp : Nat.beq g41.np hs.length = true) (ha : Nat.ble args.length 9 = true) (hq : codeQ Try.prog g41 b41 ⟨hs.length, enumH 0 hs, slotsOf 0 args⟩ (retQ Try.prog g41 Try.f41.results.toList K)) : ACall Try.prog 41 args hs K :=
  ACall.of_code (Γ := g41) Try.func41 (by kernel_rfl) (by kernel_rfl) (by kernel_rfl) (by kernel_rfl) (Nat.eq_of_beq_eq_true hp) ha hq
/-- netsegment/interval.Contains$1 -/
noncomputable def g42 : Ctx := { N := 14, np := 0, own := fun _ => false, plan := fun _ => none, hints := fun _ => [], cut := fun _ => false }
noncomputable def b42 : Code := match Try.f42.body with | some c => c | none => .skip
theorem of42 {args : List AV} {hs : List Vm.Obj} {K : AV → List Vm.Obj → Prop} (hp : Nat.beq g42.np hs.length = true) (ha : Nat.ble args.length 14 = true) (hq : codeQ Try.prog g42 b42 ⟨hs.length, enumH 0 hs, slotsOf 0 args⟩ (retQ Try.prog g42 Try.f42.results.toList K)) : ACall Try.prog 42 args hs K :=
  ACall.of_code (Γ := g42) Try.func42 (by kernel_rfl) (by kernel_rfl) (by kernel_rfl) (by kernel_rfl) (Nat.eq_of_beq_eq_true hp) ha hq
/-- slices.IndexFunc[[]netsegment/api.Range,netsegment/api.Range] -/
noncomputable def g50 : Ctx := { N := 19, np := 0, own := fun _ => false, plan := fun _ => none, hints := fun _ => [], cut := fun _ => false }
noncomputable def b50 : Code := match Try.f50.body with | some c => c | none => .skip
theorem of50 {args : List AV} {hs : List Vm.Obj} {K : AV → List Vm.Obj → Prop} (hp : Nat.beq g50.np hs.length = true) (ha : Nat.ble args.length 19 = true) (hq : codeQ Try.prog g50 b50 ⟨hs.length, enumH 0 hs, slotsOf 0 args⟩ (retQ Try.prog g50 Try.f50.results.toList K)) : ACall Try.prog 50 args hs K :=
  ACall.of_code (Γ := g50) Try.func50 (by kernel_rfl) (by kernel_rfl) (by kernel_rfl) (by kernel_rfl) (Nat.eq_of_beq_eq_true hp) ha hq
/-- netsegment/interval.canonical$1 -/
noncomputable def g47 : Ctx := { N := 10, np := 0, own := fun _ => false, plan := fun _ => none, hints := fun _ => [], cut := fun _ => false }
noncomputable def b47 : Code := match Try.f47.body with | some c => c | none => .skip
theorem of47 {args : List AV} {hs : List Vm.Obj} {K : AV → List Vm.Obj → Prop} (hp : Nat.beq g47.np hs.length = true) (ha : Nat.ble args.length 10 = true) (hq : codeQ Try.prog g47 b47 ⟨hs.length, enumH 0 hs, slotsOf 0 args⟩ (retQ Try.prog g47 Try.f47.results.toList K)) : ACall Try.prog 47 args hs K :=
  ACall.of_code (Γ := g47) Try.func47 (by kernel_rfl) (by kernel_rfl) (by kernel_rfl) (by kernel_rfl) (Nat.eq_of_beq_eq_true hp) ha hq
/-- cmp.Compare[uint32] -/
noncomputable def g48 : Ctx := { N := 20, np := 0, own := fun _ => false, plan := fun _ => none, hints := fun _ => [], cut := fun _ => false }
noncomputable def b48 : Code := match Try.f48.body with | some c => c | none => .skip
theorem of48 {args : List AV} {hs : List Vm.Obj} {K : AV → List Vm.Obj → Prop} (hp : Nat.beq g48.np hs.length = true) (ha : Nat.ble args.length 20 = true) (hq : codeQ Try.prog g48 b48 ⟨hs.length, enumH 0 hs, slotsOf 0 args⟩ (retQ Try.prog g48 Try.f48.results.toList K)) : ACall Try.prog 48 args hs K :=
  ACall.of_code (Γ := g48) Try.func48 (by kernel_rfl) (by kernel_rfl) (by kernel_rfl) (by kernel_rfl) (Nat.eq_of_beq_eq_true hp) ha hq
/-- cmp.isNaN[uint32] -/
noncomputable def g54 : Ctx := { N := 6, np := 0, own := fun _ => false, plan := fun _ => none, hints := fun _ => [], cut := fun _ => false }
noncomputable def b54 : Code := match Try.f54.body with | some c => c | none => .skip
theorem of54 {args : List AV} {hs : List Vm.Obj} {K : AV → List Vm.Obj → Prop} (hp : Nat.beq g54.np hs.length = true) (ha : Nat.ble args.length 6 = true) (hq : codeQ Try.prog g54 b54 ⟨hs.length, enumH 0 hs, slotsOf 0 args⟩ (retQ Try.prog g54 Try.f54.results.toList K)) : ACall Try.prog 54 args hs K :=
  ACall.of_code (Γ := g54) Try.func54 (by kernel_rfl) (by kernel_rfl) (by kernel_rfl) (by kernel_rfl) (Nat.eq_of_beq_eq_true hp) ha hq

end Go.Proofs.Ytkpnlmainmlogaa
