/- Plain law: the starts; nsgref2's functions as sets. -/
import Derived.Test.YtkpnlmainmlogaaIf
set_option linter.unusedVariables false
set_option linter.unusedSimpArgs false
set_option maxRecDepth 20000
namespace Go.Proofs.Ytkpnlmainmlogaa
open Go Go.Vm

theorem mem_ins : ∀ {l : List Int} {v x : Int}, x ∈ ins l v ↔ x ∈ l ∨ x = v
  | [], v, x => by simp [ins]
  | y :: l, v, x => by
    simp only [ins]
    split
    · rw [List.mem_cons, mem_ins (l := l), List.mem_cons, or_assoc]
    · split
      · rename_i h; subst h
        simp only [List.mem_cons]
        constructor
        · intro h; exact .inl h
        · rintro (h | h)
          · exact h
          · exact .inl h
      · simp only [List.mem_cons]
        constructor
        · rintro (h | h | h)
          · exact .inr h
          · exact .inl (.inl h)
          · exact .inl (.inr h)
        · rintro ((h | h) | h)
          · exact .inr (.inl h)
          · exact .inr (.inr h)
          · exact .inl h
theorem ins_sorted : ∀ {l : List Int} {v : Int}, l.Pairwise (· < ·) → (ins l v).Pairwise (· < ·)
  | [], v, h => by simp [ins]
  | y :: l, v, h => by
    have ⟨h1, h2⟩ := List.pairwise_cons.1 h
    simp only [ins]
    split
    · rename_i hy
      refine List.pairwise_cons.2 ⟨fun x hx => ?_, ins_sorted h2⟩
      rcases mem_ins.1 hx with hx | rfl
      · exact h1 x hx
      · exact hy
    · split
      · exact h
      · rename_i h3 h4
        refine List.pairwise_cons.2 ⟨fun x hx => ?_, h⟩
        rcases List.mem_cons.1 hx with rfl | hx
        · omega
        · have := h1 x hx; omega

structure SInv (top : Int) (out : List Int) : Prop where
  sorted : out.Pairwise (· < ·)
  zero : ∃ r, out = 0 :: r
  range : ∀ x, x ∈ out → 0 ≤ x ∧ x ≤ top

theorem SInv.insT {top v : Int} {out : List Int} (h : SInv top out) (hv : 0 ≤ v) : SInv top (insT out v top) := by
  unfold Go.Proofs.Ytkpnlmainmlogaa.insT
  split
  · exact h
  · refine ⟨ins_sorted h.sorted, ?_, fun x hx => ?_⟩
    · obtain ⟨r, hr⟩ := h.zero
      subst hr
      simp only [ins]
      split
      · exact ⟨_, rfl⟩
      · split
        · exact ⟨_, rfl⟩
        · omega
    · rcases mem_ins.1 hx with hx | rfl
      · exact h.range x hx
      · omega
theorem SInv.stP {top : Int} {out : List Int} {r : Rg} (h : SInv top out) : SInv top (stP top out r) := by
  unfold Go.Proofs.Ytkpnlmainmlogaa.stP
  split
  · exact (h.insT r.l0).insT (by have := r.h0; omega)
  · exact h
theorem mem_insT {l : List Int} {v top x : Int} : x ∈ insT l v top ↔ x ∈ l ∨ (x = v ∧ x ≤ top) := by
  unfold insT
  split
  · constructor
    · exact .inl
    · rintro (h | ⟨rfl, h⟩)
      · exact h
      · omega
  · rw [mem_ins]
    constructor
    · rintro (h | rfl)
      · exact .inl h
      · exact .inr ⟨rfl, by omega⟩
    · rintro (h | ⟨h, _⟩)
      · exact .inl h
      · exact .inr h
theorem stP_mono {top : Int} {out : List Int} {r : Rg} {x : Int} (h : x ∈ out) : x ∈ stP top out r := by
  unfold stP
  split
  · exact mem_insT.2 (.inl (mem_insT.2 (.inl h)))
  · exact h
theorem fold_stP : ∀ (l : List Rg) {top : Int} {out : List Int}, SInv top out → SInv top (l.foldl (stP top) out) ∧ (∀ x, x ∈ out → x ∈ l.foldl (stP top) out) ∧
    (∀ r, r ∈ l → r.lo ≤ r.hi → (r.lo ≤ top → r.lo ∈ l.foldl (stP top) out) ∧ (r.hi + 1 ≤ top → r.hi + 1 ∈ l.foldl (stP top) out)) ∧ (l.foldl (stP top) out).length ≤ out.length + 2 * l.length
  | [], top, out, h => ⟨h, fun x hx => hx, fun r hr => by simp at hr, by simp⟩
  | r :: l, top, out, h => by
    obtain ⟨h1, h2, h3, h4⟩ := fold_stP l (h.stP (r := r))
    refine ⟨h1, fun x hx => h2 x (stP_mono hx), fun s hs hle => ?_, ?_⟩
    · rcases List.mem_cons.1 hs with rfl | hs
      · refine ⟨fun ht => h2 _ ?_, fun ht => h2 _ ?_⟩
        · unfold stP; rw [if_pos hle]; exact mem_insT.2 (.inl (mem_insT.2 (.inr ⟨rfl, ht⟩)))
        · unfold stP; rw [if_pos hle]; exact mem_insT.2 (.inr ⟨rfl, ht⟩)
      · exact h3 s hs hle
    · have := stP_length top out r
      simp only [List.foldl_cons, List.length_cons]
      omega

theorem starts_inv (l : List Rg) {top : Int} (ht : 0 ≤ top) : SInv top (starts l top) := (fold_stP l ⟨by simp, ⟨[], rfl⟩, fun x hx => by simp at hx; subst hx; omega⟩).1
theorem starts_mem (l : List Rg) {top : Int} (ht : 0 ≤ top) {r : Rg} (hr : r ∈ l) (hle : r.lo ≤ r.hi) : (r.lo ≤ top → r.lo ∈ starts l top) ∧ (r.hi + 1 ≤ top → r.hi + 1 ∈ starts l top) :=
  (fold_stP l ⟨by simp, ⟨[], rfl⟩, fun x hx => by simp at hx; subst hx; omega⟩).2.2.1 r hr hle
theorem starts_length (l : List Rg) {top : Int} (ht : 0 ≤ top) : (starts l top).length ≤ 2 * l.length + 1 := by
  have := (fold_stP (top := top) l (out := [0]) ⟨by simp, ⟨[], rfl⟩, fun x hx => by simp at hx; subst hx; omega⟩).2.2.2
  simp only [starts, List.length_cons, List.length_nil] at this ⊢; omega

theorem segs_spec : ∀ (st : List Int) {top : Int}, st.Pairwise (· < ·) → (∀ x, x ∈ st → x ≤ top) → ∀ s, s ∈ segs top st → s.2 ≤ top ∧ s.1 ∈ st ∧ ∀ x, x ∈ st → ¬ (s.1 < x ∧ x ≤ s.2)
  | [], top, _, _, s, hs => by simp [segs] at hs
  | [p], top, hp, hb, s, hs => by
    simp [segs] at hs; subst hs
    exact ⟨Int.le_refl _, by simp, fun x hx => by simp at hx; subst hx; omega⟩
  | p :: q :: st, top, hp, hb, s, hs => by
    simp only [segs, List.mem_cons] at hs
    have ⟨h1, h2⟩ := List.pairwise_cons.1 hp
    rcases hs with rfl | hs
    · refine ⟨by have := hb q (by simp); simp only; omega, by simp, fun x hx => ?_⟩
      rcases List.mem_cons.1 hx with rfl | hx
      · simp only; omega
      · rcases List.mem_cons.1 hx with rfl | hx
        · simp only; omega
        · have := (List.pairwise_cons.1 h2).1 x hx; simp only; omega
    · obtain ⟨a, b, c⟩ := segs_spec (q :: st) h2 (fun x hx => hb x (by simp at hx ⊢; exact .inr hx)) s (by simpa [segs] using hs)
      refine ⟨a, by simp at b ⊢; exact .inr b, fun x hx => ?_⟩
      rcases List.mem_cons.1 hx with rfl | hx
      · have := h1 s.1 b; omega
      · exact c x hx

/-- between two starts nothing changes -/
theorem has_const {l a : List Rg} {top : Int} (ht : 0 ≤ top) (hsub : ∀ r, r ∈ a → r ∈ l) {s : Int × Int} (hs : s ∈ segs top (starts l top)) {v : Int} (h1 : s.1 ≤ v) (h2 : v ≤ s.2) : has a v = has a s.1 := by
  have inv := starts_inv l ht
  obtain ⟨g1, g2, g3⟩ := segs_spec _ inv.sorted (fun x hx => (inv.range x hx).2) s hs
  rw [Bool.eq_iff_iff, has_iff, has_iff]
  constructor
  · rintro ⟨r, hr, a1, a2⟩
    refine ⟨r, hr, ?_, by omega⟩
    rcases Int.lt_or_le s.1 r.lo with h | h
    · exact absurd ⟨h, by omega⟩ (g3 r.lo ((starts_mem l ht (hsub r hr) (by omega)).1 (by omega)))
    · exact h
  · rintro ⟨r, hr, a1, a2⟩
    refine ⟨r, hr, by omega, ?_⟩
    rcases Int.lt_or_le r.hi v with h | h
    · exact absurd ⟨by omega, by omega⟩ (g3 (r.hi + 1) ((starts_mem l ht (hsub r hr) (by omega)).2 (by omega)))
    · exact h

theorem fold_keep_length (f : Int → Bool) : ∀ (l : List (Int × Int)) (out : List Rg), (l.foldl (keepS f) out).length ≤ out.length + l.length
  | [], out => by simp
  | s :: l, out => by
    have := keepS_length f out s
    have := fold_keep_length f l (keepS f out s)
    simp only [List.foldl_cons, List.length_cons]; omega

/-- nsgref2.keep as a set -/
theorem keep (a b : List Rg) (c top : Int) (ht0 : 0 ≤ top) (ht : top ≤ 4294967295) (ha : a.length < 10000) (hb : b.length < 10000)
    {K : AV → List Vm.Obj → Prop} (hK : ∀ out, Canon out → (∀ v, has out v = (decide (0 ≤ v) && (decide (v < top + 1) && keepC c (has a v) (has b v)))) → out.length ≤ 2 * (a.length + b.length) + 1 → K (encRs out) []) :
    ACall Try.prog 38 [encRs a, encRs b, .v (.int .i64 c), .v (.int .u32 top)] [] K := by
  have inv := starts_inv (a ++ b) ht0
  have hl := starts_length (a ++ b) ht0
  obtain ⟨r0, hr0⟩ := inv.zero
  rw [List.length_append] at hl
  refine c38 a b c top ht0 ht ha hb inv.range (fun k x hx => ?_) (by omega) ?_
  · rw [hr0] at hx
    have := (List.pairwise_cons.1 (hr0 ▸ inv.sorted)).1 x (List.mem_of_getElem? (by simpa using hx))
    omega
  · have hk : KInv (fun v => keepC c (has a v) (has b v)) (keepL (fun v => keepC c (has a v) (has b v)) (starts (a ++ b) top) top) (top + 1) := by
      unfold keepL
      have hseg : ∀ s, s ∈ segs top (starts (a ++ b) top) → ∀ v, s.1 ≤ v → v ≤ s.2 → (fun v => keepC c (has a v) (has b v)) v = (fun v => keepC c (has a v) (has b v)) s.1 := by
        intro s hs v h1 h2
        simp only
        rw [has_const ht0 (fun r hr => List.mem_append.2 (.inl hr)) hs h1 h2, has_const ht0 (fun r hr => List.mem_append.2 (.inr hr)) hs h1 h2]
      have hsort := inv.sorted
      have hrange := inv.range
      rw [hr0] at hseg hsort hrange ⊢
      refine fold_inv ht r0 0 [] ⟨⟨fun r hr => by simp at hr, by simp⟩, fun v => ?_, fun r hr => by simp at hr⟩ hsort hrange hseg
      rw [Bool.eq_iff_iff]
      simp only [has, List.any_nil, Bool.false_eq_true, Bool.and_eq_true, decide_eq_true_eq, false_iff]
      omega
    refine hK _ hk.canon hk.mem ?_
    have := fold_keep_length (fun v => keepC c (has a v) (has b v)) (segs top (starts (a ++ b) top)) []
    rw [segs_length] at this
    unfold keepL
    simp only [List.length_nil] at this
    omega

end Go.Proofs.Ytkpnlmainmlogaa
