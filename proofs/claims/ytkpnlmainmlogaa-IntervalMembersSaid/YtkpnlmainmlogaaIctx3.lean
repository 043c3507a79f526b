/- The functions of the seat as the machine takes them: contexts, bodies, contracts out of the code. Printed by gsctx.py. -/
import Derived.Test.YtkpnlmainmlogaaVmK
import Derived.Test.YtkpnlmainmlogaaProg
set_option linter.unusedVariables false
namespace Go.Proofs.Ytkpnlmainmlogaa
open Go Go.Vm

/-- netsegment/nsggen.Mod -/
noncomputable def g37 : Ctx := { N := 11, np := 0, own := fun _ => false, plan := fun _ => none, hints := fun _ => [], cut := fun _ => false }
noncomputable def b37 : Code := match Try.f37.body with | some c => c | none => .skip
theorem of37 {args : List AV} {hs : List Vm.Obj} {K : AV → List Vm.Obj → Prop} (hp : Nat.beq g37.np hs.length = true) (ha : Nat.ble args.length 11 = true) (hq : codeQ Try.prog g37 b37 ⟨hs.length, enumH 0 hs, slotsOf 0 args⟩ (retQ Try.prog g37 Try.f37.results.toList K)) : ACall Try.prog 37 args hs K :=
  ACall.of_code (Γ := g37) Try.func37 (by kernel_rfl) (by kernel_rfl) (by kernel_rfl) (by kernel_rfl) (Nat.eq_of_beq_eq_true hp) ha hq
/-- (*netsegment/nsggen.Tape).Next -/
noncomputable def g13 : Ctx := { N := 39, np := 1, own := fun _ => false, plan := fun i => match Nat.beq i 1 with | true => some (lin [(0, true), (1, true), (2, true), (3, true), (4, true), (5, true), (6, true), (7, true), (8, true), (9, true), (10, true), (11, true), (12, true), (13, true)]) | false => match Nat.beq i 4 with | true => some (lin [(0, true), (1, true), (2, true), (3, true), (4, true), (5, true), (6, true), (7, true), (8, true), (9, true), (10, true), (11, true), (12, false), (13, true)]) | false => none, hints := fun _ => [], cut := fun _ => false }
noncomputable def b13 : Code := match Try.f13.body with | some c => c | none => .skip
theorem of13 {args : List AV} {hs : List Vm.Obj} {K : AV → List Vm.Obj → Prop} (hp : Nat.beq g13.np hs.length = true) (ha : Nat.ble args.length 39 = true) (hq : codeQ Try.prog g13 b13 ⟨hs.length, enumH 0 hs, slotsOf 0 args⟩ (retQ Try.prog g13 Try.f13.results.toList K)) : ACall Try.prog 13 args hs K :=
  ACall.of_code (Γ := g13) Try.func13 (by kernel_rfl) (by kernel_rfl) (by kernel_rfl) (by kernel_rfl) (Nat.eq_of_beq_eq_true hp) ha hq
/-- (*netsegment/nsggen.Tape).Number -/
noncomputable def g12 : Ctx := { N := 19, np := 1, own := fun i => match Nat.beq i 13 with | true => true | false => false, plan := fun _ => none, hints := fun _ => [], cut := fun _ => false }
noncomputable def b12 : Code := match Try.f12.body with | some c => c | none => .skip
theorem of12 {args : List AV} {hs : List Vm.Obj} {K : AV → List Vm.Obj → Prop} (hp : Nat.beq g12.np hs.length = true) (ha : Nat.ble args.length 19 = true) (hq : codeQ Try.prog g12 b12 ⟨hs.length, enumH 0 hs, slotsOf 0 args⟩ (retQ Try.prog g12 Try.f12.results.toList K)) : ACall Try.prog 12 args hs K :=
  ACall.of_code (Γ := g12) Try.func12 (by kernel_rfl) (by kernel_rfl) (by kernel_rfl) (by kernel_rfl) (Nat.eq_of_beq_eq_true hp) ha hq
/-- (*netsegment/nsggen.Tape).Range -/
noncomputable def g29 : Ctx := { N := 20, np := 1, own := fun i => match Nat.beq i 12 with | true => true | false => false, plan := fun _ => none, hints := fun _ => [], cut := fun _ => false }
noncomputable def b29 : Code := match Try.f29.body with | some c => c | none => .skip
theorem of29 {args : List AV} {hs : List Vm.Obj} {K : AV → List Vm.Obj → Prop} (hp : Nat.beq g29.np hs.length = true) (ha : Nat.ble args.length 20 = true) (hq : codeQ Try.prog g29 b29 ⟨hs.length, enumH 0 hs, slotsOf 0 args⟩ (retQ Try.prog g29 Try.f29.results.toList K)) : ACall Try.prog 29 args hs K :=
  ACall.of_code (Γ := g29) Try.func29 (by kernel_rfl) (by kernel_rfl) (by kernel_rfl) (by kernel_rfl) (Nat.eq_of_beq_eq_true hp) ha hq
/-- (*netsegment/nsggen.Tape).Ranges -/
noncomputable def g10 : Ctx := { N := 40, np := 1, own := fun i => match Nat.beq i 13 with | true => true | false => match Nat.beq i 29 with | true => true | false => false, plan := fun _ => none, hints := fun i => match Nat.beq i 2 with | true => [.virt 9 2] | false => [], cut := fun _ => false }
noncomputable def b10 : Code := match Try.f10.body with | some c => c | none => .skip
theorem of10 {args : List AV} {hs : List Vm.Obj} {K : AV → List Vm.Obj → Prop} (hp : Nat.beq g10.np hs.length = true) (ha : Nat.ble args.length 40 = true) (hq : codeQ Try.prog g10 b10 ⟨hs.length, enumH 0 hs, slotsOf 0 args⟩ (retQ Try.prog g10 Try.f10.results.toList K)) : ACall Try.prog 10 args hs K :=
  ACall.of_code (Γ := g10) Try.func10 (by kernel_rfl) (by kernel_rfl) (by kernel_rfl) (by kernel_rfl) (Nat.eq_of_beq_eq_true hp) ha hq
/-- netsegment/nsggen.New -/
noncomputable def g9 : Ctx := { N := 6, np := 0, own := fun _ => false, plan := fun _ => none, hints := fun _ => [], cut := fun _ => false }
noncomputable def b9 : Code := match Try.f9.body with | some c => c | none => .skip
theorem of9 {args : List AV} {hs : List Vm.Obj} {K : AV → List Vm.Obj → Prop} (hp : Nat.beq g9.np hs.length = true) (ha : Nat.ble args.length 6 = true) (hq : codeQ Try.prog g9 b9 ⟨hs.length, enumH 0 hs, slotsOf 0 args⟩ (retQ Try.prog g9 Try.f9.results.toList K)) : ACall Try.prog 9 args hs K :=
  ACall.of_code (Γ := g9) Try.func9 (by kernel_rfl) (by kernel_rfl) (by kernel_rfl) (by kernel_rfl) (Nat.eq_of_beq_eq_true hp) ha hq

end Go.Proofs.Ytkpnlmainmlogaa
