/- The functions of the seat as the machine takes them: contexts, bodies, contracts out of the code. Printed by gsctx.py. -/
import Derived.Test.YtkpnlmainmlogaaVmK
import Derived.Test.YtkpnlmainmlogaaProg
set_option linter.unusedVariables false
namespace Go.Proofs.Ytkpnlmainmlogaa
open Go Go.Vm

/-- netsegment/nsglaw2.huge -/
noncomputable def g15 : Ctx := { N := 6, np := 0, own := fun _ => false, plan := fun _ => none, hints := fun _ => [], cut := fun _ => false }
noncomputable def b15 : Code := match Try.f15.body with | some c => c | none => .skip
theorem of15 {args : List AV} {hs : List Vm.Obj} {K : AV → List Vm.Obj → Prop} (hp : Nat.beq g15.np hs.length = true) (ha : Nat.ble args.length 6 = true) (hq : codeQ Try.prog g15 b15 ⟨hs.length, enumH 0 hs, slotsOf 0 args⟩ (retQ Try.prog g15 Try.f15.results.toList K)) : ACall Try.prog 15 args hs K :=
  ACall.of_code (Γ := g15) Try.func15 (by kernel_rfl) (by kernel_rfl) (by kernel_rfl) (by kernel_rfl) (Nat.eq_of_beq_eq_true hp) ha hq
/-- netsegment/nsgref2.Same -/
noncomputable def g22 : Ctx := { N := 26, np := 0, own := fun _ => false, plan := fun i => match Nat.beq i 6 with | true => some (lin [(0, true), (1, true), (2, true), (3, true), (4, true), (5, true), (6, true), (7, true), (8, true)]) | false => none, hints := fun _ => [], cut := fun _ => false }
noncomputable def b22 : Code := match Try.f22.body with | some c => c | none => .skip
theorem of22 {args : List AV} {hs : List Vm.Obj} {K : AV → List Vm.Obj → Prop} (hp : Nat.beq g22.np hs.length = true) (ha : Nat.ble args.length 26 = true) (hq : codeQ Try.prog g22 b22 ⟨hs.length, enumH 0 hs, slotsOf 0 args⟩ (retQ Try.prog g22 Try.f22.results.toList K)) : ACall Try.prog 22 args hs K :=
  ACall.of_code (Γ := g22) Try.func22 (by kernel_rfl) (by kernel_rfl) (by kernel_rfl) (by kernel_rfl) (Nat.eq_of_beq_eq_true hp) ha hq
/-- netsegment/nsgref2.Valid -/
noncomputable def g33 : Ctx := { N := 53, np := 0, own := fun _ => false, plan := fun i => match Nat.beq i 4 with | true => some (lin [(0, true), (1, true), (2, true), (3, true), (4, true), (5, true), (6, true), (7, true), (8, true), (9, true), (10, true), (11, true), (12, true), (13, true), (14, true), (15, true), (16, true), (17, true), (18, true), (19, true), (20, true), (21, true), (22, true), (23, true), (24, true), (25, true), (26, true), (27, true), (28, true), (29, true), (30, true), (31, true), (32, true), (33, true), (34, true), (35, true), (36, true), (37, true), (38, true), (39, true), (40, true)]) | false => none, hints := fun _ => [], cut := fun _ => false }
noncomputable def b33 : Code := match Try.f33.body with | some c => c | none => .skip
theorem of33 {args : List AV} {hs : List Vm.Obj} {K : AV → List Vm.Obj → Prop} (hp : Nat.beq g33.np hs.length = true) (ha : Nat.ble args.length 53 = true) (hq : codeQ Try.prog g33 b33 ⟨hs.length, enumH 0 hs, slotsOf 0 args⟩ (retQ Try.prog g33 Try.f33.results.toList K)) : ACall Try.prog 33 args hs K :=
  ACall.of_code (Γ := g33) Try.func33 (by kernel_rfl) (by kernel_rfl) (by kernel_rfl) (by kernel_rfl) (Nat.eq_of_beq_eq_true hp) ha hq
/-- netsegment/nsgref2.Contains -/
noncomputable def g34 : Ctx := { N := 28, np := 0, own := fun _ => false, plan := fun _ => none, hints := fun _ => [], cut := fun _ => false }
noncomputable def b34 : Code := match Try.f34.body with | some c => c | none => .skip
theorem of34 {args : List AV} {hs : List Vm.Obj} {K : AV → List Vm.Obj → Prop} (hp : Nat.beq g34.np hs.length = true) (ha : Nat.ble args.length 28 = true) (hq : codeQ Try.prog g34 b34 ⟨hs.length, enumH 0 hs, slotsOf 0 args⟩ (retQ Try.prog g34 Try.f34.results.toList K)) : ACall Try.prog 34 args hs K :=
  ACall.of_code (Γ := g34) Try.func34 (by kernel_rfl) (by kernel_rfl) (by kernel_rfl) (by kernel_rfl) (Nat.eq_of_beq_eq_true hp) ha hq
/-- netsegment/nsgref2.Size -/
noncomputable def g35 : Ctx := { N := 31, np := 0, own := fun _ => false, plan := fun i => match Nat.beq i 6 with | true => some (lin [(0, true), (1, true), (2, true), (3, true), (4, true), (5, true), (6, true), (7, true), (8, true), (9, true), (10, true), (11, true), (12, true), (13, true), (14, true), (15, true), (16, true)]) | false => none, hints := fun _ => [], cut := fun _ => false }
noncomputable def b35 : Code := match Try.f35.body with | some c => c | none => .skip
theorem of35 {args : List AV} {hs : List Vm.Obj} {K : AV → List Vm.Obj → Prop} (hp : Nat.beq g35.np hs.length = true) (ha : Nat.ble args.length 31 = true) (hq : codeQ Try.prog g35 b35 ⟨hs.length, enumH 0 hs, slotsOf 0 args⟩ (retQ Try.prog g35 Try.f35.results.toList K)) : ACall Try.prog 35 args hs K :=
  ACall.of_code (Γ := g35) Try.func35 (by kernel_rfl) (by kernel_rfl) (by kernel_rfl) (by kernel_rfl) (Nat.eq_of_beq_eq_true hp) ha hq
/-- netsegment/nsgref2.Normal -/
noncomputable def g31 : Ctx := { N := 35, np := 0, own := fun _ => false, plan := fun i => match Nat.beq i 4 with | true => some (lin [(0, true), (1, true), (2, true), (3, true), (4, true), (5, true), (6, true), (7, true), (8, true), (9, true), (10, true), (11, true), (12, true), (13, true), (14, true), (15, true), (16, true), (17, true), (18, true), (19, true)]) | false => none, hints := fun _ => [], cut := fun _ => false }
noncomputable def b31 : Code := match Try.f31.body with | some c => c | none => .skip
theorem of31 {args : List AV} {hs : List Vm.Obj} {K : AV → List Vm.Obj → Prop} (hp : Nat.beq g31.np hs.length = true) (ha : Nat.ble args.length 35 = true) (hq : codeQ Try.prog g31 b31 ⟨hs.length, enumH 0 hs, slotsOf 0 args⟩ (retQ Try.prog g31 Try.f31.results.toList K)) : ACall Try.prog 31 args hs K :=
  ACall.of_code (Γ := g31) Try.func31 (by kernel_rfl) (by kernel_rfl) (by kernel_rfl) (by kernel_rfl) (Nat.eq_of_beq_eq_true hp) ha hq
/-- netsegment/nsgref2.Nth -/
noncomputable def g32 : Ctx := { N := 46, np := 0, own := fun _ => false, plan := fun i => match Nat.beq i 5 with | true => some (lin [(0, true), (1, true), (2, true), (3, true), (4, true), (5, true), (6, true), (7, true), (8, true), (9, true), (10, true), (11, true), (12, true), (13, true), (14, true)]) | false => none, hints := fun _ => [], cut := fun _ => false }
noncomputable def b32 : Code := match Try.f32.body with | some c => c | none => .skip
theorem of32 {args : List AV} {hs : List Vm.Obj} {K : AV → List Vm.Obj → Prop} (hp : Nat.beq g32.np hs.length = true) (ha : Nat.ble args.length 46 = true) (hq : codeQ Try.prog g32 b32 ⟨hs.length, enumH 0 hs, slotsOf 0 args⟩ (retQ Try.prog g32 Try.f32.results.toList K)) : ACall Try.prog 32 args hs K :=
  ACall.of_code (Γ := g32) Try.func32 (by kernel_rfl) (by kernel_rfl) (by kernel_rfl) (by kernel_rfl) (Nat.eq_of_beq_eq_true hp) ha hq
/-- netsegment/nsgref2.Union -/
noncomputable def g14 : Ctx := { N := 8, np := 0, own := fun _ => false, plan := fun _ => none, hints := fun _ => [], cut := fun _ => false }
noncomputable def b14 : Code := match Try.f14.body with | some c => c | none => .skip
theorem of14 {args : List AV} {hs : List Vm.Obj} {K : AV → List Vm.Obj → Prop} (hp : Nat.beq g14.np hs.length = true) (ha : Nat.ble args.length 8 = true) (hq : codeQ Try.prog g14 b14 ⟨hs.length, enumH 0 hs, slotsOf 0 args⟩ (retQ Try.prog g14 Try.f14.results.toList K)) : ACall Try.prog 14 args hs K :=
  ACall.of_code (Γ := g14) Try.func14 (by kernel_rfl) (by kernel_rfl) (by kernel_rfl) (by kernel_rfl) (Nat.eq_of_beq_eq_true hp) ha hq
/-- netsegment/nsgref2.Intersect -/
noncomputable def g26 : Ctx := { N := 8, np := 0, own := fun _ => false, plan := fun _ => none, hints := fun _ => [], cut := fun _ => false }
noncomputable def b26 : Code := match Try.f26.body with | some c => c | none => .skip
theorem of26 {args : List AV} {hs : List Vm.Obj} {K : AV → List Vm.Obj → Prop} (hp : Nat.beq g26.np hs.length = true) (ha : Nat.ble args.length 8 = true) (hq : codeQ Try.prog g26 b26 ⟨hs.length, enumH 0 hs, slotsOf 0 args⟩ (retQ Try.prog g26 Try.f26.results.toList K)) : ACall Try.prog 26 args hs K :=
  ACall.of_code (Γ := g26) Try.func26 (by kernel_rfl) (by kernel_rfl) (by kernel_rfl) (by kernel_rfl) (Nat.eq_of_beq_eq_true hp) ha hq
/-- netsegment/nsgref2.Complement -/
noncomputable def g36 : Ctx := { N := 8, np := 0, own := fun _ => false, plan := fun _ => none, hints := fun _ => [], cut := fun _ => false }
noncomputable def b36 : Code := match Try.f36.body with | some c => c | none => .skip
theorem of36 {args : List AV} {hs : List Vm.Obj} {K : AV → List Vm.Obj → Prop} (hp : Nat.beq g36.np hs.length = true) (ha : Nat.ble args.length 8 = true) (hq : codeQ Try.prog g36 b36 ⟨hs.length, enumH 0 hs, slotsOf 0 args⟩ (retQ Try.prog g36 Try.f36.results.toList K)) : ACall Try.prog 36 args hs K :=
  ACall.of_code (Γ := g36) Try.func36 (by kernel_rfl) (by kernel_rfl) (by kernel_rfl) (by kernel_rfl) (Nat.eq_of_beq_eq_true hp) ha hq
/-- netsegment/nsgref2.Subtract -/
noncomputable def g43 : Ctx := { N := 8, np := 0, own := fun _ => false, plan := fun _ => none, hints := fun _ => [], cut := fun _ => false }
noncomputable def b43 : Code := match Try.f43.body with | some c => c | none => .skip
theorem of43 {args : List AV} {hs : List Vm.Obj} {K : AV → List Vm.Obj → Prop} (hp : Nat.beq g43.np hs.length = true) (ha : Nat.ble args.length 8 = true) (hq : codeQ Try.prog g43 b43 ⟨hs.length, enumH 0 hs, slotsOf 0 args⟩ (retQ Try.prog g43 Try.f43.results.toList K)) : ACall Try.prog 43 args hs K :=
  ACall.of_code (Γ := g43) Try.func43 (by kernel_rfl) (by kernel_rfl) (by kernel_rfl) (by kernel_rfl) (Nat.eq_of_beq_eq_true hp) ha hq
/-- netsegment/nsgref2.Subset -/
noncomputable def g44 : Ctx := { N := 10, np := 0, own := fun _ => false, plan := fun _ => none, hints := fun _ => [], cut := fun _ => false }
noncomputable def b44 : Code := match Try.f44.body with | some c => c | none => .skip
theorem of44 {args : List AV} {hs : List Vm.Obj} {K : AV → List Vm.Obj → Prop} (hp : Nat.beq g44.np hs.length = true) (ha : Nat.ble args.length 10 = true) (hq : codeQ Try.prog g44 b44 ⟨hs.length, enumH 0 hs, slotsOf 0 args⟩ (retQ Try.prog g44 Try.f44.results.toList K)) : ACall Try.prog 44 args hs K :=
  ACall.of_code (Γ := g44) Try.func44 (by kernel_rfl) (by kernel_rfl) (by kernel_rfl) (by kernel_rfl) (Nat.eq_of_beq_eq_true hp) ha hq
/-- netsegment/nsgref2.Starts -/
noncomputable def g45 : Ctx := { N := 44, np := 0, own := fun _ => false, plan := fun i => match Nat.beq i 5 with | true => some (lin [(0, true), (1, true), (2, true), (3, true), (4, true), (5, true), (6, true), (7, true), (8, true), (9, true), (10, true)]) | false => match Nat.beq i 6 with | true => some (.one 0 true (.one 1 true (.one 2 true (.one 3 true (.one 4 true (.one 5 true (.one 6 true (.one 7 true (.one 9 true (.one 10 true (.one 16 true (.two 8 (.one 11 true (.one 12 true (.one 13 true (.one 14 true (.one 15 true (.one 17 false (.one 18 true (.done)))))))) 11 (.two 8 (.one 12 true (.one 13 true (.one 14 true (.one 15 true (.one 17 false (.one 18 true (.done))))))) 12 (.two 8 (.one 13 true (.one 14 true (.one 15 true (.one 17 false (.one 18 true (.done)))))) 13 (.two 8 (.one 14 true (.one 15 true (.one 17 false (.one 18 true (.done))))) 14 (.two 8 (.one 15 true (.one 17 false (.one 18 true (.done)))) 15 (.one 8 false (.one 17 false (.one 18 true (.done)))))))))))))))))))) | false => none, hints := fun i => match Nat.beq i 2 with | true => [.freeze 5] | false => [], cut := fun _ => false }
noncomputable def b45 : Code := match Try.f45.body with | some c => c | none => .skip
theorem of45 {args : List AV} {hs : List Vm.Obj} {K : AV → List Vm.Obj → Prop} (hp : Nat.beq g45.np hs.length = true) (ha : Nat.ble args.length 44 = true) (hq : codeQ Try.prog g45 b45 ⟨hs.length, enumH 0 hs, slotsOf 0 args⟩ (retQ Try.prog g45 Try.f45.results.toList K)) : ACall Try.prog 45 args hs K :=
  ACall.of_code (Γ := g45) Try.func45 (by kernel_rfl) (by kernel_rfl) (by kernel_rfl) (by kernel_rfl) (Nat.eq_of_beq_eq_true hp) ha hq
/-- netsegment/nsgref2.Insert -/
noncomputable def g51 : Ctx := { N := 52, np := 0, own := fun _ => false, plan := fun i => match Nat.beq i 8 with | true => some (.one 1 true (.one 2 true (.one 3 true (.one 5 true (.one 8 true (.one 9 true (.one 10 true (.two 0 (.two 4 (.one 6 false (.one 7 false (.one 11 false (.one 12 true (.done))))) 6 (.one 4 false (.one 7 false (.one 11 false (.one 12 true (.done)))))) 6 (.one 0 false (.one 4 false (.one 7 false (.one 11 false (.one 12 true (.done)))))))))))))) | false => none, hints := fun _ => [], cut := fun _ => false }
noncomputable def b51 : Code := match Try.f51.body with | some c => c | none => .skip
theorem of51 {args : List AV} {hs : List Vm.Obj} {K : AV → List Vm.Obj → Prop} (hp : Nat.beq g51.np hs.length = true) (ha : Nat.ble args.length 52 = true) (hq : codeQ Try.prog g51 b51 ⟨hs.length, enumH 0 hs, slotsOf 0 args⟩ (retQ Try.prog g51 Try.f51.results.toList K)) : ACall Try.prog 51 args hs K :=
  ACall.of_code (Γ := g51) Try.func51 (by kernel_rfl) (by kernel_rfl) (by kernel_rfl) (by kernel_rfl) (Nat.eq_of_beq_eq_true hp) ha hq
/-- netsegment/nsgref2.keep -/
noncomputable def g38 : Ctx := { N := 123, np := 0, own := fun _ => false, plan := fun i => match Nat.beq i 9 with | true => some (.one 0 true (.one 1 true (.one 2 true (.one 3 true (.one 4 true (.one 5 true (.one 7 true (.one 8 true (.one 9 true (.two 6 (.one 10 true (.one 11 true (.one 12 true (.one 13 false (.one 14 true (.one 15 true (.done))))))) 10 (.two 6 (.one 11 true (.one 12 true (.one 13 false (.one 14 true (.one 15 true (.done)))))) 11 (.two 6 (.one 12 true (.one 13 false (.one 14 true (.one 15 true (.done))))) 12 (.one 6 false (.one 13 false (.one 14 true (.one 15 true (.done))))))))))))))))) | false => match Nat.beq i 20 with | true => some (lin [(0, true), (1, true), (2, true), (3, true), (4, true), (5, true), (6, true), (7, true), (8, true), (9, true), (10, true), (11, true), (12, true), (13, true), (14, true), (15, true), (16, true)]) | false => none, hints := fun i => match Nat.beq i 3 with | true => [.virt 10 2] | false => [], cut := fun i => match Nat.beq i 9 with | true => true | false => match Nat.beq i 10 with | true => true | false => match Nat.beq i 11 with | true => true | false => match Nat.beq i 18 with | true => true | false => match Nat.beq i 19 with | true => true | false => false }
noncomputable def b38 : Code := match Try.f38.body with | some c => c | none => .skip
theorem of38 {args : List AV} {hs : List Vm.Obj} {K : AV → List Vm.Obj → Prop} (hp : Nat.beq g38.np hs.length = true) (ha : Nat.ble args.length 123 = true) (hq : codeQ Try.prog g38 b38 ⟨hs.length, enumH 0 hs, slotsOf 0 args⟩ (retQ Try.prog g38 Try.f38.results.toList K)) : ACall Try.prog 38 args hs K :=
  ACall.of_code (Γ := g38) Try.func38 (by kernel_rfl) (by kernel_rfl) (by kernel_rfl) (by kernel_rfl) (Nat.eq_of_beq_eq_true hp) ha hq

end Go.Proofs.Ytkpnlmainmlogaa
