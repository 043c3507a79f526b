/- The functions of the seat as the machine takes them: contexts, bodies, contracts out of the code. Printed by gsctx.py. -/
import Derived.Test.YtkpnlmainmlogaaVmK
import Derived.Test.YtkpnlmainmlogaaProg
set_option linter.unusedVariables false
namespace Go.Proofs.Ytkpnlmainmlogaa
open Go Go.Vm

/-- netsegment/interval.Union -/
noncomputable def g18 : Ctx := { N := 10, np := 0, own := fun _ => false, plan := fun _ => none, hints := fun _ => [], cut := fun _ => false }
noncomputable def b18 : Code := match Try.f18.body with | some c => c | none => .skip
theorem of18 {args : List AV} {hs : List Vm.Obj} {K : AV → List Vm.Obj → Prop} (hp : Nat.beq g18.np hs.length = true) (ha : Nat.ble args.length 10 = true) (hq : codeQ Try.prog g18 b18 ⟨hs.length, enumH 0 hs, slotsOf 0 args⟩ (retQ Try.prog g18 Try.f18.results.toList K)) : ACall Try.prog 18 args hs K :=
  ACall.of_code (Γ := g18) Try.func18 (by kernel_rfl) (by kernel_rfl) (by kernel_rfl) (by kernel_rfl) (Nat.eq_of_beq_eq_true hp) ha hq
/-- netsegment/nsglaw2.reads -/
noncomputable def g11 : Ctx := { N := 93, np := 0, own := fun _ => false, plan := fun _ => none, hints := fun _ => [], cut := fun _ => false }
noncomputable def b11 : Code := match Try.f11.body with | some c => c | none => .skip
theorem of11 {args : List AV} {hs : List Vm.Obj} {K : AV → List Vm.Obj → Prop} (hp : Nat.beq g11.np hs.length = true) (ha : Nat.ble args.length 93 = true) (hq : codeQ Try.prog g11 b11 ⟨hs.length, enumH 0 hs, slotsOf 0 args⟩ (retQ Try.prog g11 Try.f11.results.toList K)) : ACall Try.prog 11 args hs K :=
  ACall.of_code (Γ := g11) Try.func11 (by kernel_rfl) (by kernel_rfl) (by kernel_rfl) (by kernel_rfl) (Nat.eq_of_beq_eq_true hp) ha hq
/-- netsegment/nsglaw2.sane -/
noncomputable def g16 : Ctx := { N := 50, np := 0, own := fun _ => false, plan := fun _ => none, hints := fun _ => [], cut := fun _ => false }
noncomputable def b16 : Code := match Try.f16.body with | some c => c | none => .skip
theorem of16 {args : List AV} {hs : List Vm.Obj} {K : AV → List Vm.Obj → Prop} (hp : Nat.beq g16.np hs.length = true) (ha : Nat.ble args.length 50 = true) (hq : codeQ Try.prog g16 b16 ⟨hs.length, enumH 0 hs, slotsOf 0 args⟩ (retQ Try.prog g16 Try.f16.results.toList K)) : ACall Try.prog 16 args hs K :=
  ACall.of_code (Γ := g16) Try.func16 (by kernel_rfl) (by kernel_rfl) (by kernel_rfl) (by kernel_rfl) (Nat.eq_of_beq_eq_true hp) ha hq
/-- netsegment/nsglaw2.combines -/
noncomputable def g25 : Ctx := { N := 39, np := 0, own := fun _ => false, plan := fun _ => none, hints := fun _ => [], cut := fun _ => false }
noncomputable def b25 : Code := match Try.f25.body with | some c => c | none => .skip
theorem of25 {args : List AV} {hs : List Vm.Obj} {K : AV → List Vm.Obj → Prop} (hp : Nat.beq g25.np hs.length = true) (ha : Nat.ble args.length 39 = true) (hq : codeQ Try.prog g25 b25 ⟨hs.length, enumH 0 hs, slotsOf 0 args⟩ (retQ Try.prog g25 Try.f25.results.toList K)) : ACall Try.prog 25 args hs K :=
  ACall.of_code (Γ := g25) Try.func25 (by kernel_rfl) (by kernel_rfl) (by kernel_rfl) (by kernel_rfl) (Nat.eq_of_beq_eq_true hp) ha hq
/-- netsegment/nsglaw2.IntervalReads -/
noncomputable def g3 : Ctx := { N := 63, np := 0, own := fun i => match Nat.beq i 9 with | true => true | false => match Nat.beq i 10 with | true => true | false => match Nat.beq i 12 with | true => true | false => match Nat.beq i 13 with | true => true | false => false, plan := fun _ => none, hints := fun _ => [], cut := fun _ => false }
noncomputable def b3 : Code := match Try.f3.body with | some c => c | none => .skip
theorem of3 {args : List AV} {hs : List Vm.Obj} {K : AV → List Vm.Obj → Prop} (hp : Nat.beq g3.np hs.length = true) (ha : Nat.ble args.length 63 = true) (hq : codeQ Try.prog g3 b3 ⟨hs.length, enumH 0 hs, slotsOf 0 args⟩ (retQ Try.prog g3 Try.f3.results.toList K)) : ACall Try.prog 3 args hs K :=
  ACall.of_code (Γ := g3) Try.func3 (by kernel_rfl) (by kernel_rfl) (by kernel_rfl) (by kernel_rfl) (Nat.eq_of_beq_eq_true hp) ha hq
/-- netsegment/nsglaw2.IntervalCounts -/
noncomputable def g4 : Ctx := { N := 71, np := 0, own := fun _ => false, plan := fun _ => none, hints := fun _ => [], cut := fun _ => false }
noncomputable def b4 : Code := match Try.f4.body with | some c => c | none => .skip
theorem of4 {args : List AV} {hs : List Vm.Obj} {K : AV → List Vm.Obj → Prop} (hp : Nat.beq g4.np hs.length = true) (ha : Nat.ble args.length 71 = true) (hq : codeQ Try.prog g4 b4 ⟨hs.length, enumH 0 hs, slotsOf 0 args⟩ (retQ Try.prog g4 Try.f4.results.toList K)) : ACall Try.prog 4 args hs K :=
  ACall.of_code (Γ := g4) Try.func4 (by kernel_rfl) (by kernel_rfl) (by kernel_rfl) (by kernel_rfl) (Nat.eq_of_beq_eq_true hp) ha hq
/-- netsegment/nsglaw2.IntervalAlgebra -/
noncomputable def g5 : Ctx := { N := 79, np := 0, own := fun _ => false, plan := fun _ => none, hints := fun _ => [], cut := fun _ => false }
noncomputable def b5 : Code := match Try.f5.body with | some c => c | none => .skip
theorem of5 {args : List AV} {hs : List Vm.Obj} {K : AV → List Vm.Obj → Prop} (hp : Nat.beq g5.np hs.length = true) (ha : Nat.ble args.length 79 = true) (hq : codeQ Try.prog g5 b5 ⟨hs.length, enumH 0 hs, slotsOf 0 args⟩ (retQ Try.prog g5 Try.f5.results.toList K)) : ACall Try.prog 5 args hs K :=
  ACall.of_code (Γ := g5) Try.func5 (by kernel_rfl) (by kernel_rfl) (by kernel_rfl) (by kernel_rfl) (Nat.eq_of_beq_eq_true hp) ha hq
/-- netsegment/nsglaw2.IntervalCombines -/
noncomputable def g6 : Ctx := { N := 61, np := 0, own := fun i => match Nat.beq i 9 with | true => true | false => match Nat.beq i 10 with | true => true | false => match Nat.beq i 12 with | true => true | false => match Nat.beq i 13 with | true => true | false => false, plan := fun _ => none, hints := fun _ => [], cut := fun _ => false }
noncomputable def b6 : Code := match Try.f6.body with | some c => c | none => .skip
theorem of6 {args : List AV} {hs : List Vm.Obj} {K : AV → List Vm.Obj → Prop} (hp : Nat.beq g6.np hs.length = true) (ha : Nat.ble args.length 61 = true) (hq : codeQ Try.prog g6 b6 ⟨hs.length, enumH 0 hs, slotsOf 0 args⟩ (retQ Try.prog g6 Try.f6.results.toList K)) : ACall Try.prog 6 args hs K :=
  ACall.of_code (Γ := g6) Try.func6 (by kernel_rfl) (by kernel_rfl) (by kernel_rfl) (by kernel_rfl) (Nat.eq_of_beq_eq_true hp) ha hq
/-- netsegment/nsglaw2.IntervalMembers -/
noncomputable def g7 : Ctx := { N := 80, np := 0, own := fun _ => false, plan := fun _ => none, hints := fun _ => [], cut := fun _ => false }
noncomputable def b7 : Code := match Try.f7.body with | some c => c | none => .skip
theorem of7 {args : List AV} {hs : List Vm.Obj} {K : AV → List Vm.Obj → Prop} (hp : Nat.beq g7.np hs.length = true) (ha : Nat.ble args.length 80 = true) (hq : codeQ Try.prog g7 b7 ⟨hs.length, enumH 0 hs, slotsOf 0 args⟩ (retQ Try.prog g7 Try.f7.results.toList K)) : ACall Try.prog 7 args hs K :=
  ACall.of_code (Γ := g7) Try.func7 (by kernel_rfl) (by kernel_rfl) (by kernel_rfl) (by kernel_rfl) (Nat.eq_of_beq_eq_true hp) ha hq
/-- netsegment/nsglaw2.IntervalCanonical -/
noncomputable def g8 : Ctx := { N := 59, np := 0, own := fun _ => false, plan := fun _ => none, hints := fun _ => [], cut := fun _ => false }
noncomputable def b8 : Code := match Try.f8.body with | some c => c | none => .skip
theorem of8 {args : List AV} {hs : List Vm.Obj} {K : AV → List Vm.Obj → Prop} (hp : Nat.beq g8.np hs.length = true) (ha : Nat.ble args.length 59 = true) (hq : codeQ Try.prog g8 b8 ⟨hs.length, enumH 0 hs, slotsOf 0 args⟩ (retQ Try.prog g8 Try.f8.results.toList K)) : ACall Try.prog 8 args hs K :=
  ACall.of_code (Γ := g8) Try.func8 (by kernel_rfl) (by kernel_rfl) (by kernel_rfl) (by kernel_rfl) (Nat.eq_of_beq_eq_true hp) ha hq

end Go.Proofs.Ytkpnlmainmlogaa
