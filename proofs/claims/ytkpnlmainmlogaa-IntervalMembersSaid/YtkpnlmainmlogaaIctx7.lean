/- The functions of the seat as the machine takes them: contexts, bodies, contracts out of the code. Printed by gsctx.py. -/
import Derived.Test.YtkpnlmainmlogaaVmK
import Derived.Test.YtkpnlmainmlogaaProg
set_option linter.unusedVariables false
namespace Go.Proofs.Ytkpnlmainmlogaa
open Go Go.Vm

/-- slices.Grow[[]netsegment/api.Range,netsegment/api.Range] -/
noncomputable def g49 : Ctx := { N := 27, np := 0, own := fun _ => false, plan := fun _ => none, hints := fun i => match Nat.beq i 6 with | true => [.virt 0 2] | false => [], cut := fun _ => false, res := true }
noncomputable def b49 : Code := match Try.f49.body with | some c => c | none => .skip
theorem of49 {args : List AV} {hs : List Vm.Obj} {K : AV → List Vm.Obj → Prop} (hp : Nat.beq g49.np hs.length = true) (ha : Nat.ble args.length 27 = true) (hq : codeQ Try.prog g49 b49 ⟨hs.length, enumH 0 hs, slotsOf 0 args⟩ (retQ Try.prog g49 Try.f49.results.toList K)) : ACall Try.prog 49 args hs K :=
  ACall.of_code (Γ := g49) Try.func49 (by kernel_rfl) (by kernel_rfl) (by kernel_rfl) (by kernel_rfl) (Nat.eq_of_beq_eq_true hp) ha hq
/-- slices.Concat[[]netsegment/api.Range,netsegment/api.Range] -/
noncomputable def g40 : Ctx := { N := 36, np := 0, own := fun i => match Nat.beq i 49 with | true => true | false => false, plan := fun _ => none, hints := fun _ => [], cut := fun _ => false }
noncomputable def b40 : Code := match Try.f40.body with | some c => c | none => .skip
theorem of40 {args : List AV} {hs : List Vm.Obj} {K : AV → List Vm.Obj → Prop} (hp : Nat.beq g40.np hs.length = true) (ha : Nat.ble args.length 36 = true) (hq : codeQ Try.prog g40 b40 ⟨hs.length, enumH 0 hs, slotsOf 0 args⟩ (retQ Try.prog g40 Try.f40.results.toList K)) : ACall Try.prog 40 args hs K :=
  ACall.of_code (Γ := g40) Try.func40 (by kernel_rfl) (by kernel_rfl) (by kernel_rfl) (by kernel_rfl) (Nat.eq_of_beq_eq_true hp) ha hq

end Go.Proofs.Ytkpnlmainmlogaa
