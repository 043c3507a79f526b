/- The functions of one list agree with the reference, which lists are canonical: the statement IntervalReadsSaid holds, for every input, without a condition. -/
import Derived.Test.YtkpnlmainmlogaaIcl
import Derived.Test.YtkpnlmainmlogaaIv
set_option linter.unusedVariables false
set_option maxRecDepth 100000
namespace Go.Proofs.Ytkpnlmainmlogaa
open Go Go.Vm Go.ChangeShapes Go.WideShapes Go.ChangeAt Go.RowKit

theorem intervalReads_lifted (os : Os) (started : os.Started) (H : Type) (enc : TypeId × Value → H) :
    ReturnsInHanded {} Try.checked os 3 .any (Rows.intervalReadsSpec.pre6 enc Try.prog Try.f3 Rows.intervalReadsRow.domain false) (Rows.intervalReadsSpec.post enc Try.prog Try.f3 false true false false) := by
  refine returnsInHanded_of_change (C := Try.checked) ownNone started (by kernel_rfl) Try.func3
    (ChangeSpec.witness6 (enc := enc) (C := Try.checked) false ⟨#[], #[.slice none 0 0, .slice none 0 0, .int .u32 0, .int .u32 0, .int .u64 0], []⟩ 8 (by kernel_rfl) (by kernel_rfl) (by kernel_rfl) (by kernel_rfl)) ?_
  intro W base args ds gs before hval hW _ _
  refine law_contract (P := Try.prog) (t := 4) (d := 3) laidOut (by kernel_rfl) (by kernel_rfl) rfl rfl (by kernel_rfl) (fun ds hds => ?_) (fun xs hxs => ?_) hval hW
  · match ds, hds with
    | [d0, d1, d2, d3, d4], _ => rfl
  · match xs, hxs with
    | [a0, a1, a2, a3, a4], ⟨h0, h1, h2, h3, h4, _⟩ =>
      obtain ⟨raw0, rfl, hr0⟩ := ty_is h0
      obtain ⟨l1, rfl⟩ := ty_rs h1
      obtain ⟨n2, rfl, p2, q2⟩ := ty_u32 h2
      obtain ⟨n3, rfl, p3, q3⟩ := ty_u32 h3
      obtain ⟨n4, rfl, p4, q4⟩ := ty_u64 h4
      exact c3 raw0 l1 n2 n3 n4 hr0 p2 q2 p3 q3 p4 q4

theorem intervalReads_holds : Rows.IntervalReadsSaid :=
  OpenClaim.holds_of_wide 3 Try.f3 rfl rfl rfl rfl rfl rfl rfl ⟨rfl, rfl, rfl, rfl, rfl⟩ rfl rfl rfl rfl rfl (by kernel_rfl) Try.func3 (by kernel_rfl)
    (of_decide_eq_true (by kernel_rfl)) (by unfold Func.isWrapper; first | (rw [if_pos (by decide +kernel)]; kernel_rfl) | (rw [if_neg (by decide +kernel)]; exact ⟨rfl, rfl⟩))
    (fun os started H enc _ => intervalReads_lifted os started H enc)

#print axioms intervalReads_holds
end Go.Proofs.Ytkpnlmainmlogaa
