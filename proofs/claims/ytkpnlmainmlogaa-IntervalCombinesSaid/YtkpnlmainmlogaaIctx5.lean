/- The functions of the seat as the machine takes them: contexts, bodies, contracts out of the code. Printed by gsctx.py. -/
import Derived.Test.YtkpnlmainmlogaaVmK
import Derived.Test.YtkpnlmainmlogaaProg
set_option linter.unusedVariables false
namespace Go.Proofs.Ytkpnlmainmlogaa
open Go Go.Vm

/-- netsegment/interval.canonical -/
noncomputable def g39 : Ctx := { N := 72, np := 0, own := fun i => match Nat.beq i 46 with | true => true | false => false, plan := fun i => match Nat.beq i 13 with | true => some (lin [(0, true), (1, true), (2, true), (3, true), (4, true), (5, true), (6, true), (7, true), (8, true), (9, true), (10, true), (11, true), (12, true), (13, true), (14, true), (15, true)]) | false => match Nat.beq i 14 with | true => some (lin [(0, true), (1, true), (2, true), (3, true), (4, true), (5, true), (6, true), (7, true), (8, true), (9, true), (10, true), (11, true), (12, true), (13, true), (14, false)]) | false => none, hints := fun i => match Nat.beq i 2 with | true => [.virt 3 2, .virt 4 2] | false => [], cut := fun _ => false }
noncomputable def b39 : Code := match Try.f39.body with | some c => c | none => .skip
theorem of39 {args : List AV} {hs : List Vm.Obj} {K : AV → List Vm.Obj → Prop} (hp : Nat.beq g39.np hs.length = true) (ha : Nat.ble args.length 72 = true) (hq : codeQ Try.prog g39 b39 ⟨hs.length, enumH 0 hs, slotsOf 0 args⟩ (retQ Try.prog g39 Try.f39.results.toList K)) : ACall Try.prog 39 args hs K :=
  ACall.of_code (Γ := g39) Try.func39 (by kernel_rfl) (by kernel_rfl) (by kernel_rfl) (by kernel_rfl) (Nat.eq_of_beq_eq_true hp) ha hq

end Go.Proofs.Ytkpnlmainmlogaa
