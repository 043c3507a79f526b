/- The operations on two lists agree with the reference: the statement IntervalCombinesSaid holds, for every input, without a condition. -/
import Derived.Test.YtkpnlmainmlogaaIcl
import Derived.Test.YtkpnlmainmlogaaIv
set_option linter.unusedVariables false
set_option maxRecDepth 100000
namespace Go.Proofs.Ytkpnlmainmlogaa
open Go Go.Vm Go.ChangeShapes Go.WideShapes Go.ChangeAt Go.RowKit

theorem intervalCombines_lifted (os : Os) (started : os.Started) (H : Type) (enc : TypeId × Value → H) :
    ReturnsInHanded {} Try.checked os 6 .any (Rows.intervalCombinesSpec.pre6 enc Try.prog Try.f6 Rows.intervalCombinesRow.domain false) (Rows.intervalCombinesSpec.post enc Try.prog Try.f6 false true false false) := by
  refine returnsInHanded_of_change (C := Try.checked) ownNone started (by kernel_rfl) Try.func6
    (ChangeSpec.witness6 (enc := enc) (C := Try.checked) false ⟨#[], #[.slice none 0 0, .slice none 0 0, .slice none 0 0], []⟩ 8 (by kernel_rfl) (by kernel_rfl) (by kernel_rfl) (by kernel_rfl)) ?_
  intro W base args ds gs before hval hW _ _
  refine law_contract (P := Try.prog) (t := 4) (d := 3) laidOut (by kernel_rfl) (by kernel_rfl) rfl rfl (by kernel_rfl) (fun ds hds => ?_) (fun xs hxs => ?_) hval hW
  · match ds, hds with
    | [d0, d1, d2], _ => rfl
  · match xs, hxs with
    | [a0, a1, a2], ⟨h0, h1, h2, _⟩ =>
      obtain ⟨raw0, rfl, hr0⟩ := ty_is h0
      obtain ⟨l1, rfl⟩ := ty_rs h1
      obtain ⟨l2, rfl⟩ := ty_rs h2
      exact c6 raw0 l1 l2 hr0

theorem intervalCombines_holds : Rows.IntervalCombinesSaid :=
  OpenClaim.holds_of_wide 6 Try.f6 rfl rfl rfl rfl rfl rfl rfl ⟨rfl, rfl, rfl, rfl, rfl⟩ rfl rfl rfl rfl rfl (by kernel_rfl) Try.func6 (by kernel_rfl)
    (of_decide_eq_true (by kernel_rfl)) (by unfold Func.isWrapper; first | (rw [if_pos (by decide +kernel)]; kernel_rfl) | (rw [if_neg (by decide +kernel)]; exact ⟨rfl, rfl⟩))
    (fun os started H enc _ => intervalCombines_lifted os started H enc)

#print axioms intervalCombines_holds
end Go.Proofs.Ytkpnlmainmlogaa
