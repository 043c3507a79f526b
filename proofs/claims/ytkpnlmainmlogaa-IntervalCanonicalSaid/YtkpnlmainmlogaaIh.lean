/- nsgref2: Union, Intersect, Complement, Subtract, Subset. -/
import Derived.Test.YtkpnlmainmlogaaIg
set_option linter.unusedVariables false
set_option linter.unusedSimpArgs false
set_option maxRecDepth 20000
namespace Go.Proofs.Ytkpnlmainmlogaa
open Go Go.Vm

theorem has_bounds {l : List Rg} {v : Int} (h : has l v = true) : 0 ≤ v ∧ v ≤ 4294967295 := by
  obtain ⟨r, _, h1, h2⟩ := has_iff.1 h
  have := r.l0; have := r.h1
  omega
theorem has_nil (v : Int) : has [] v = false := rfl

/-- nsgref2.Union -/
theorem c14 (a b : List Rg) (ha : a.length < 10000) (hb : b.length < 10000) {K : AV → List Vm.Obj → Prop} (hK : ∀ out, Canon out → (∀ v, has out v = (has a v || has b v)) → out.length ≤ 2 * (a.length + b.length) + 1 → K (encRs out) []) :
    ACall Try.prog 14 [encRs a, encRs b] [] K := by
  refine of14 rfl rfl ?_
  (conv => whnf)
  refine keep a b 0 4294967295 (by omega) (by omega) ha hb fun out h1 h2 h3 => ?_
  (conv => whnf)
  refine hK out h1 (fun v => ?_) h3
  rw [h2, Bool.eq_iff_iff]
  simp only [Bool.and_eq_true, decide_eq_true_eq, keepC, Bool.or_eq_true, reduceCtorEq, Int.reduceEq, if_false]
  constructor
  · rintro ⟨_, _, h⟩; exact h
  · intro h
    have := h.elim has_bounds has_bounds
    exact ⟨by omega, by omega, h⟩
theorem c14n (a : List Rg) (ha : a.length < 10000) {K : AV → List Vm.Obj → Prop} (hK : ∀ out, Canon out → (∀ v, has out v = has a v) → out.length ≤ 2 * a.length + 1 → K (encRs out) []) :
    ACall Try.prog 14 [encRs a, .nils] [] K :=
  ACall.args (ys := [encRs a, encRs []]) ⟨Weak.refl, Weak.nils, trivial⟩ (c14 a [] ha (by simp) fun out h1 h2 h3 => hK out h1 (fun v => by rw [h2]; simp [has_nil]) (by simpa using h3))
/-- nsgref2.Intersect -/
theorem c26 (a b : List Rg) (ha : a.length < 10000) (hb : b.length < 10000) {K : AV → List Vm.Obj → Prop} (hK : ∀ out, Canon out → (∀ v, has out v = (has a v && has b v)) → out.length ≤ 2 * (a.length + b.length) + 1 → K (encRs out) []) :
    ACall Try.prog 26 [encRs a, encRs b] [] K := by
  refine of26 rfl rfl ?_
  (conv => whnf)
  refine keep a b 1 4294967295 (by omega) (by omega) ha hb fun out h1 h2 h3 => ?_
  (conv => whnf)
  refine hK out h1 (fun v => ?_) h3
  rw [h2, Bool.eq_iff_iff]
  simp only [Bool.and_eq_true, decide_eq_true_eq, keepC, if_true]
  constructor
  · rintro ⟨_, _, h⟩; exact h
  · intro h
    have := has_bounds h.1
    exact ⟨by omega, by omega, h⟩
/-- nsgref2.Subtract -/
theorem c43 (a b : List Rg) (ha : a.length < 10000) (hb : b.length < 10000) {K : AV → List Vm.Obj → Prop} (hK : ∀ out, Canon out → (∀ v, has out v = (has a v && !has b v)) → out.length ≤ 2 * (a.length + b.length) + 1 → K (encRs out) []) :
    ACall Try.prog 43 [encRs a, encRs b] [] K := by
  refine of43 rfl rfl ?_
  (conv => whnf)
  refine keep a b 2 4294967295 (by omega) (by omega) ha hb fun out h1 h2 h3 => ?_
  (conv => whnf)
  refine hK out h1 (fun v => ?_) h3
  rw [h2, Bool.eq_iff_iff]
  simp only [Bool.and_eq_true, decide_eq_true_eq, keepC, Int.reduceEq, if_false, if_true]
  constructor
  · rintro ⟨_, _, h⟩; exact h
  · intro h
    have := has_bounds h.1
    exact ⟨by omega, by omega, h⟩
/-- nsgref2.Complement -/
theorem c36 (a : List Rg) (top : Int) (ht0 : 0 ≤ top) (ht : top ≤ 4294967295) (ha : a.length < 10000) {K : AV → List Vm.Obj → Prop} (hK : ∀ out, Canon out → (∀ v, has out v = (decide (0 ≤ v) && (decide (v ≤ top) && !has a v))) → out.length ≤ 2 * a.length + 1 → K (encRs out) []) :
    ACall Try.prog 36 [encRs a, .v (.int .u32 top)] [] K := by
  refine of36 rfl rfl ?_
  (conv => whnf)
  refine ACall.args (ys := [encRs a, encRs [], .v (.int .i64 3), .v (.int .u32 top)]) ⟨Weak.refl, Weak.nils, Weak.refl, Weak.refl, trivial⟩ ?_
  refine keep a [] 3 top ht0 ht ha (by simp) fun out h1 h2 h3 => ?_
  (conv => whnf)
  refine hK out h1 (fun v => ?_) (by simpa using h3)
  rw [h2, Bool.eq_iff_iff]
  simp only [Bool.and_eq_true, decide_eq_true_eq, keepC, Int.reduceEq, if_false, if_true, has_nil, Bool.not_false, and_true]
  constructor
  · rintro ⟨h1, h2, h3⟩; exact ⟨h1, by omega, h3⟩
  · rintro ⟨h1, h2, h3⟩; exact ⟨h1, by omega, h3⟩
theorem canon_nil_iff {l : List Rg} (hl : Canon l) : l = [] ↔ ∀ v, has l v = false := by
  constructor
  · rintro rfl v; rfl
  · intro h; exact canon_ext hl ⟨fun r hr => by simp at hr, by simp⟩ (fun v => by rw [h v]; rfl)
/-- nsgref2.Subset -/
theorem c44 (a b : List Rg) (ha : a.length < 10000) (hb : b.length < 10000) {K : AV → List Vm.Obj → Prop} (hK : ∀ s, (s = true ↔ ∀ v, has a v = true → has b v = true) → K (.sb s) []) :
    ACall Try.prog 44 [encRs a, encRs b] [] K := by
  refine ACall.bool (of44 rfl rfl ?_)
  (conv => whnf)
  refine c43 a b ha hb fun out h1 h2 h3 => ?_
  (conv => whnf)
  refine .inr ⟨_, rfl, hK _ ?_⟩
  rw [decide_eq_true_eq, List.length_map]
  have : ((out.length : Int) = 0) ↔ out = [] := by
    rw [← List.length_eq_zero_iff]; omega
  rw [this, canon_nil_iff h1]
  constructor
  · intro h v hv
    have := h v
    rw [h2, hv] at this
    simpa using this
  · intro h v
    rw [h2]
    cases hv : has a v with
    | false => rfl
    | true => rw [h v hv]; rfl

end Go.Proofs.Ytkpnlmainmlogaa
