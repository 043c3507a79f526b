/- The laws of layer 2, from their contracts to their statements: the frame. -/
import Derived.Test.YtkpnlmainmlogaaRows
import Derived.Test.YtkpnlmainmlogaaVmQ
import Derived.Test.YtkpnlmainmlogaaIv
import Derived.WalkKit
import Derived.ProofKit
import Derived.OpenShut
set_option linter.unusedVariables false
set_option maxRecDepth 20000
namespace Go.Proofs.Ytkpnlmainmlogaa
open Go Go.Vm Go.ChangeShapes Go.WideShapes Go.ChangeAt Go.RowKit

theorem ownNone : ownKnob Try.prog.godebug = none := by kernel_rfl
theorem laidOut : laidOutB Try.prog = true := by kernel_rfl

/-- a list of ranges -/
theorem ty_rs {x : AV} (h : Ty Try.prog 3 23 x) : ∃ l : List Rg, x = encRs l := by
  obtain ⟨xs, rfl, _, hx⟩ := h
  have one : ∀ y, Ty Try.prog 2 40 y → ∃ r : Rg, y = encR r := by
    rintro y ⟨ys, hl, rfl, hf⟩
    match ys, hl with
    | [p, q], _ =>
      obtain ⟨i, rfl, i0, i1⟩ := hf 0 _ p rfl rfl
      obtain ⟨j, rfl, j0, j1⟩ := hf 1 _ q rfl rfl
      exact ⟨⟨i, j, i0, i1, j0, j1⟩, rfl⟩
  have all : ∀ xs : List AV, (∀ y, y ∈ xs → Ty Try.prog 2 40 y) → ∃ l : List Rg, xs = l.map encR := by
    intro xs
    induction xs with
    | nil => intro _; exact ⟨[], rfl⟩
    | cons y ys ih =>
      intro h
      obtain ⟨r, hr⟩ := one y (h y (by simp))
      obtain ⟨l, hl⟩ := ih fun z hz => h z (by simp [hz])
      exact ⟨r :: l, by rw [List.map_cons, hr, hl]⟩
  obtain ⟨l, rfl⟩ := all xs hx
  exact ⟨l, rfl⟩
theorem ty_is {x : AV} (h : Ty Try.prog 3 22 x) : ∃ raw : List Int, x = .lst (raw.map encI) ∧ raw.length ≤ 9223372036854775807 := by
  obtain ⟨xs, rfl, hl, hx⟩ := h
  have all : ∀ xs : List AV, (∀ y, y ∈ xs → Ty Try.prog 2 3 y) → ∃ l : List Int, xs = l.map encI := by
    intro xs
    induction xs with
    | nil => intro _; exact ⟨[], rfl⟩
    | cons y ys ih =>
      intro h
      obtain ⟨i, hr, _⟩ := h y (by simp)
      obtain ⟨l, hl⟩ := ih fun z hz => h z (by simp [hz])
      exact ⟨i :: l, by rw [List.map_cons, hr, hl]⟩
  obtain ⟨l, rfl⟩ := all xs hx
  refine ⟨l, rfl, ?_⟩
  simpa [maxLen] using hl
theorem ty_u32 {x : AV} (h : Ty Try.prog 3 24 x) : ∃ i : Int, x = .v (.int .u32 i) ∧ 0 ≤ i ∧ i ≤ 4294967295 := h
theorem ty_u64 {x : AV} (h : Ty Try.prog 3 25 x) : ∃ i : Int, x = .v (.int .u64 i) ∧ 0 ≤ i ∧ i ≤ 18446744073709551615 := h

end Go.Proofs.Ytkpnlmainmlogaa
