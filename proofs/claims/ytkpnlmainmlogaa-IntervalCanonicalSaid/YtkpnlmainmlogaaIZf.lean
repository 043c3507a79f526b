/- The results are canonical, and canonical lists are equal if they have the same members: the statement IntervalCanonicalSaid holds, for every input, without a condition. -/
import Derived.Test.YtkpnlmainmlogaaIcl
import Derived.Test.YtkpnlmainmlogaaIx
set_option linter.unusedVariables false
set_option maxRecDepth 100000
namespace Go.Proofs.Ytkpnlmainmlogaa
open Go Go.Vm Go.ChangeShapes Go.WideShapes Go.ChangeAt Go.RowKit

theorem intervalCanonical_lifted (os : Os) (started : os.Started) (H : Type) (enc : TypeId × Value → H) :
    ReturnsInHanded {} Try.checked os 8 .any (Rows.intervalCanonicalSpec.pre6 enc Try.prog Try.f8 Rows.intervalCanonicalRow.domain false) (Rows.intervalCanonicalSpec.post enc Try.prog Try.f8 false true false false) := by
  refine returnsInHanded_of_change (C := Try.checked) ownNone started (by kernel_rfl) Try.func8
    (ChangeSpec.witness6 (enc := enc) (C := Try.checked) false ⟨#[], #[.slice none 0 0, .slice none 0 0], []⟩ 8 (by kernel_rfl) (by kernel_rfl) (by kernel_rfl) (by kernel_rfl)) ?_
  intro W base args ds gs before hval hW _ _
  refine law_contract (P := Try.prog) (t := 4) (d := 3) laidOut (by kernel_rfl) (by kernel_rfl) rfl rfl (by kernel_rfl) (fun ds hds => ?_) (fun xs hxs => ?_) hval hW
  · match ds, hds with
    | [d0, d1], _ => rfl
  · match xs, hxs with
    | [a0, a1], ⟨h0, h1, _⟩ =>
      obtain ⟨l0, rfl⟩ := ty_rs h0
      obtain ⟨l1, rfl⟩ := ty_rs h1
      exact c8 l0 l1

theorem intervalCanonical_holds : Rows.IntervalCanonicalSaid :=
  OpenClaim.holds_of_wide 8 Try.f8 rfl rfl rfl rfl rfl rfl rfl ⟨rfl, rfl, rfl, rfl, rfl⟩ rfl rfl rfl rfl rfl (by kernel_rfl) Try.func8 (by kernel_rfl)
    (of_decide_eq_true (by kernel_rfl)) (by unfold Func.isWrapper; first | (rw [if_pos (by decide +kernel)]; kernel_rfl) | (rw [if_neg (by decide +kernel)]; exact ⟨rfl, rfl⟩))
    (fun os started H enc _ => intervalCanonical_lifted os started H enc)

#print axioms intervalCanonical_holds
end Go.Proofs.Ytkpnlmainmlogaa
