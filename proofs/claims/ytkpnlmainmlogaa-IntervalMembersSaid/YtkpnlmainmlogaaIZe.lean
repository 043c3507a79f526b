/- A number is a member of the results exactly as the operations say: the statement IntervalMembersSaid holds, for every input, without a condition. -/
import Derived.Test.YtkpnlmainmlogaaIcl
import Derived.Test.YtkpnlmainmlogaaIw
set_option linter.unusedVariables false
set_option maxRecDepth 100000
namespace Go.Proofs.Ytkpnlmainmlogaa
open Go Go.Vm Go.ChangeShapes Go.WideShapes Go.ChangeAt Go.RowKit

theorem intervalMembers_lifted (os : Os) (started : os.Started) (H : Type) (enc : TypeId × Value → H) :
    ReturnsInHanded {} Try.checked os 7 .any (Rows.intervalMembersSpec.pre6 enc Try.prog Try.f7 Rows.intervalMembersRow.domain false) (Rows.intervalMembersSpec.post enc Try.prog Try.f7 false true false false) := by
  refine returnsInHanded_of_change (C := Try.checked) ownNone started (by kernel_rfl) Try.func7
    (ChangeSpec.witness6 (enc := enc) (C := Try.checked) false ⟨#[], #[.slice none 0 0, .slice none 0 0, .int .u32 0], []⟩ 8 (by kernel_rfl) (by kernel_rfl) (by kernel_rfl) (by kernel_rfl)) ?_
  intro W base args ds gs before hval hW _ _
  refine law_contract (P := Try.prog) (t := 4) (d := 3) laidOut (by kernel_rfl) (by kernel_rfl) rfl rfl (by kernel_rfl) (fun ds hds => ?_) (fun xs hxs => ?_) hval hW
  · match ds, hds with
    | [d0, d1, d2], _ => rfl
  · match xs, hxs with
    | [a0, a1, a2], ⟨h0, h1, h2, _⟩ =>
      obtain ⟨l0, rfl⟩ := ty_rs h0
      obtain ⟨l1, rfl⟩ := ty_rs h1
      obtain ⟨n2, rfl, p2, q2⟩ := ty_u32 h2
      exact c7 l0 l1 n2 p2 q2

theorem intervalMembers_holds : Rows.IntervalMembersSaid :=
  OpenClaim.holds_of_wide 7 Try.f7 rfl rfl rfl rfl rfl rfl rfl ⟨rfl, rfl, rfl, rfl, rfl⟩ rfl rfl rfl rfl rfl (by kernel_rfl) Try.func7 (by kernel_rfl)
    (of_decide_eq_true (by kernel_rfl)) (by unfold Func.isWrapper; first | (rw [if_pos (by decide +kernel)]; kernel_rfl) | (rw [if_neg (by decide +kernel)]; exact ⟨rfl, rfl⟩))
    (fun os started H enc _ => intervalMembers_lifted os started H enc)

#print axioms intervalMembers_holds
end Go.Proofs.Ytkpnlmainmlogaa
