/- Size adds up, and Nth returns the members in ascending order: the statement IntervalCountsSaid holds, for every input, without a condition. -/
import Derived.Test.YtkpnlmainmlogaaIcl
import Derived.Test.YtkpnlmainmlogaaIz
set_option linter.unusedVariables false
set_option maxRecDepth 100000
namespace Go.Proofs.Ytkpnlmainmlogaa
open Go Go.Vm Go.ChangeShapes Go.WideShapes Go.ChangeAt Go.RowKit

theorem intervalCounts_lifted (os : Os) (started : os.Started) (H : Type) (enc : TypeId × Value → H) :
    ReturnsInHanded {} Try.checked os 4 .any (Rows.intervalCountsSpec.pre6 enc Try.prog Try.f4 Rows.intervalCountsRow.domain false) (Rows.intervalCountsSpec.post enc Try.prog Try.f4 false true false false) := by
  refine returnsInHanded_of_change (C := Try.checked) ownNone started (by kernel_rfl) Try.func4
    (ChangeSpec.witness6 (enc := enc) (C := Try.checked) false ⟨#[], #[.slice none 0 0, .slice none 0 0, .int .u64 0], []⟩ 8 (by kernel_rfl) (by kernel_rfl) (by kernel_rfl) (by kernel_rfl)) ?_
  intro W base args ds gs before hval hW _ _
  refine law_contract (P := Try.prog) (t := 4) (d := 3) laidOut (by kernel_rfl) (by kernel_rfl) rfl rfl (by kernel_rfl) (fun ds hds => ?_) (fun xs hxs => ?_) hval hW
  · match ds, hds with
    | [d0, d1, d2], _ => rfl
  · match xs, hxs with
    | [a0, a1, a2], ⟨h0, h1, h2, _⟩ =>
      obtain ⟨l0, rfl⟩ := ty_rs h0
      obtain ⟨l1, rfl⟩ := ty_rs h1
      obtain ⟨n2, rfl, p2, q2⟩ := ty_u64 h2
      exact c4 l0 l1 n2 p2 q2

theorem intervalCounts_holds : Rows.IntervalCountsSaid :=
  OpenClaim.holds_of_wide 4 Try.f4 rfl rfl rfl rfl rfl rfl rfl ⟨rfl, rfl, rfl, rfl, rfl⟩ rfl rfl rfl rfl rfl (by kernel_rfl) Try.func4 (by kernel_rfl)
    (of_decide_eq_true (by kernel_rfl)) (by unfold Func.isWrapper; first | (rw [if_pos (by decide +kernel)]; kernel_rfl) | (rw [if_neg (by decide +kernel)]; exact ⟨rfl, rfl⟩))
    (fun os started H enc _ => intervalCounts_lifted os started H enc)

#print axioms intervalCounts_holds
end Go.Proofs.Ytkpnlmainmlogaa
