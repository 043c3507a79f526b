/- More functions of the seat as the machine takes them: contexts, bodies, contracts out of the code. Printed by gsctx.py. -/
import Derived.Test.YtkpnlmainmlogaaVmK
import Derived.Test.YtkpnlmainmlogaaProg
set_option linter.unusedVariables false
namespace Go.Proofs.Ytkpnlmainmlogaa
open Go Go.Vm

/-- netsegment/interval.Valid -/
noncomputable def g28 : Ctx := { N := 44, np := 0, own := fun _ => false, plan := fun i => match Nat.beq i 4 with | true => some (lin [(0, true), (1, true), (2, true), (3, true), (4, true), (5, true), (6, true), (7, true), (8, true), (9, true), (10, true), (11, true), (12, true), (13, true), (14, true), (15, true), (16, true), (17, true), (18, true), (19, true), (20, true), (21, true), (22, true), (23, true), (24, true), (25, true), (26, true), (27, true), (28, true)]) | false => none, hints := fun _ => [], cut := fun _ => false }
noncomputable def b28 : Code := match Try.f28.body with | some c => c | none => .skip
theorem of28 {args : List AV} {hs : List Vm.Obj} {K : AV → List Vm.Obj → Prop} (hp : Nat.beq g28.np hs.length = true) (ha : Nat.ble args.length 44 = true) (hq : codeQ Try.prog g28 b28 ⟨hs.length, enumH 0 hs, slotsOf 0 args⟩ (retQ Try.prog g28 Try.f28.results.toList K)) : ACall Try.prog 28 args hs K :=
  ACall.of_code (Γ := g28) Try.func28 (by kernel_rfl) (by kernel_rfl) (by kernel_rfl) (by kernel_rfl) (Nat.eq_of_beq_eq_true hp) ha hq

end Go.Proofs.Ytkpnlmainmlogaa
