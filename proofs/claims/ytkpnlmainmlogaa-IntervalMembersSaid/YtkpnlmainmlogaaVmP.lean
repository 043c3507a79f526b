/- An abstract machine over the loaded code, part P: operations whose value hangs on slots alone. -/
import Derived.Test.YtkpnlmainmlogaaVmI
set_option linter.unusedVariables false
set_option linter.unusedSimpArgs false
namespace Go.Vm

/-- where it answers, it answers so in every world, and leaves it -/
def Pur (P : Program) {α : Type} (s : Sem α) : Prop := ∀ w v w', s.run P w = .ok v w' → w' = w ∧ ∀ w2, s.run P w2 = .ok v w2

section
variable {P : Program} {α β : Type}
theorem Pur.pure (a : α) : Pur P (Pure.pure a : Sem α) := fun w v w' h => by simp at h; obtain ⟨rfl, rfl⟩ := h; exact ⟨rfl, fun w2 => by simp⟩
theorem Pur.halt (x : Halt) : Pur P (.halt x : Sem α) := fun w v w' h => by simp at h
theorem Pur.program : Pur P Go.program := fun w v w' h => by
  rw [run_program] at h; cases h; exact ⟨rfl, fun w2 => run_program _ _⟩
theorem Pur.bind {x : Sem α} {f : α → Sem β} (hx : Pur P x) (hf : ∀ a, Pur P (f a)) : Pur P (x >>= f) := fun w v w' h => by
  rw [Sem.run_bind] at h
  cases hr : x.run P w with
  | halt a b => rw [hr] at h; cases h
  | ok a w1 =>
    rw [hr] at h
    obtain ⟨rfl, h1⟩ := hx w a w1 hr
    obtain ⟨rfl, h2⟩ := hf a _ v w' h
    exact ⟨rfl, fun w2 => by rw [Sem.run_bind, h1 w2]; exact h2 w2⟩
theorem Pur.never {x : Sem α} (h : ∀ w v w', x.run P w ≠ .ok v w') : Pur P x := fun w v w' hh => absurd hh (h w v w')
theorem runtimePanic_never (e : RuntimeError) (w : World) (v : α) (w' : World) : (runtimePanic e : Sem α).run P w ≠ .ok v w' := by
  intro h
  unfold runtimePanic at h
  rw [Sem.run_bind, run_program] at h
  have nb : ∀ {γ δ : Type} (x : Sem γ) (f : γ → Sem δ), (∀ a w v w', (f a).run P w ≠ .ok v w') → ∀ w v w', (x >>= f).run P w ≠ .ok v w' := by
    intro γ δ x f hf w v w' h
    rw [Sem.run_bind] at h
    cases hr : x.run P w with
    | halt a b => rw [hr] at h; cases h
    | ok a w1 => rw [hr] at h; exact hf _ _ _ _ h
  have hl : ∀ (x : Halt) w v w', (Sem.halt x : Sem α).run P w ≠ .ok v w' := fun x w v w' h => by simp at h
  cases e with
  | typeAssertion i c a m => exact nb _ _ (fun a => nb _ _ (fun r => hl _)) _ _ _ h
  | panicNil => exact nb _ _ (fun a => nb _ _ (fun r => hl _)) _ _ _ h
  | _ => simp [goPanic] at h
theorem bind_never {γ δ : Type} (x : Sem γ) (f : γ → Sem δ) (hf : ∀ a w v w', (f a).run P w ≠ .ok v w') : ∀ w v w', (x >>= f).run P w ≠ .ok v w' := by
  intro w v w' h
  rw [Sem.run_bind] at h
  cases hr : x.run P w with
  | halt a b => rw [hr] at h; cases h
  | ok a w1 => rw [hr] at h; exact hf _ _ _ _ h
theorem boundsPanic_pur (k : IntKind) (x y : Int) (c : BoundsCode) : Pur P (boundsPanic k x y c : Sem α) := Pur.never fun w v w' h => by
  unfold boundsPanic at h
  dsimp only at h
  split at h
  · exact bind_never _ _ (fun a w v w' => runtimePanic_never _ w v w') _ _ _ h
  · rw [Sem.run_bind, Sem.run_pure, Result.andThen_ok] at h; exact runtimePanic_never (P := P) _ w v w' h
theorem typeInfo_pur (t : TypeId) : Pur P (typeInfo t) := by
  unfold typeInfo
  refine Pur.bind Pur.program fun p => ?_
  split
  · exact Pur.pure _
  · exact Pur.halt _
theorem underlying_pur (t : TypeId) : Pur P (underlying t) := by
  unfold underlying
  refine Pur.bind Pur.program fun p => ?_
  split
  · exact Pur.pure _
  · exact Pur.halt _
theorem sizeOf_pur (t : TypeId) : Pur P (sizeOf t) := Pur.bind (typeInfo_pur t) fun _ => Pur.pure _
theorem asIntOf_pur (v : Value) : Pur P (asIntOf v) := by
  unfold asIntOf
  split
  · exact Pur.pure _
  · exact Pur.halt _
  · exact Pur.halt _
theorem asAddr_pur (v : Value) : Pur P (asAddr v) := by
  unfold asAddr
  split
  · exact Pur.pure _
  · exact Pur.never fun w v w' => runtimePanic_never _ _ _ _
  · exact Pur.halt _
theorem sliceBound_pur (x : Value) (y : Nat) (c : BoundsCode) : Pur P (Instr.sliceBound x y c) := by
  unfold Instr.sliceBound
  refine Pur.bind (asIntOf_pur _) fun ⟨k, i⟩ => ?_
  simp only
  split
  · exact Pur.pure _
  · exact boundsPanic_pur _ _ _ _
theorem sliceBounds_pur (b : Bool) (len cap : Nat) (low high max : Option Value) : Pur P (Instr.sliceBounds b len cap low high max) := by
  unfold Instr.sliceBounds
  have k1 : ∀ h m : Nat, Pur P (match low with
      | some v => do
        let l ← Instr.sliceBound v h (if max.isSome = true then BoundsCode.slice3C else BoundsCode.sliceB)
        Pure.pure (l, h, m)
      | none => do
        let l ← Pure.pure 0
        Pure.pure (l, h, m)) := by
    intro h m
    cases low with
    | none => exact Pur.bind (Pur.pure _) fun _ => Pur.pure _
    | some v => exact Pur.bind (sliceBound_pur _ _ _) fun _ => Pur.pure _
  cases max with
  | none =>
    refine Pur.bind (Pur.pure _) fun m => ?_
    cases high with
    | none => exact Pur.bind (Pur.pure _) fun h => k1 _ _
    | some v => exact Pur.bind (sliceBound_pur _ _ _) fun h => k1 _ _
  | some v =>
    refine Pur.bind (sliceBound_pur _ _ _) fun m => ?_
    cases high with
    | none => exact Pur.bind (Pur.halt _) fun h => k1 _ _
    | some v => exact Pur.bind (sliceBound_pur _ _ _) fun h => k1 _ _
theorem slice_pur (t : TypeId) (x : Value) (l h m : Option Value) : Pur P (Instr.slice t x l h m) := by
  unfold Instr.slice
  refine Pur.bind (underlying_pur _) fun d => ?_
  split
  · cases m with
    | none => exact Pur.bind (sliceBounds_pur _ _ _ _ _ _) fun _ => Pur.pure _
    | some v => exact Pur.bind (Pur.halt _) fun _ => Pur.bind (sliceBounds_pur _ _ _ _ _ _) fun _ => Pur.pure _
  · exact Pur.bind (sliceBounds_pur _ _ _ _ _ _) fun _ => Pur.bind (sizeOf_pur _) fun _ => Pur.pure _
  · refine Pur.bind (asAddr_pur _) fun _ => Pur.bind (underlying_pur _) fun d => ?_
    cases d with
    | array n e => exact Pur.bind (sliceBounds_pur _ _ _ _ _ _) fun _ => Pur.bind (sizeOf_pur _) fun _ => Pur.pure _
    | _ => exact Pur.halt _
  · exact Pur.halt _

theorem sureAddr_pur (v : Value) : Pur P (Instr.sureAddr v) := by
  unfold Instr.sureAddr
  split
  · exact Pur.pure _
  · exact Pur.halt _
theorem sliceAt_pur (t : TypeId) (x : Value) (l h m : Option Value) : Pur P (Instr.sliceAt t x l h m) := by
  unfold Instr.sliceAt
  refine Pur.bind (underlying_pur _) fun d => ?_
  split
  · exact Pur.bind (sureAddr_pur _) fun _ => Pur.bind (sliceBounds_pur _ _ _ _ _ _) fun _ => Pur.bind (sizeOf_pur _) fun _ => Pur.pure _
  · exact slice_pur _ _ _ _ _

end
end Go.Vm
