/- Plain law: canonical lists of ranges. -/
import Derived.Test.YtkpnlmainmlogaaIe
set_option linter.unusedVariables false
set_option linter.unusedSimpArgs false
namespace Go.Proofs.Ytkpnlmainmlogaa
open Go Go.Vm

def Canon (l : List Rg) : Prop := (∀ r, r ∈ l → r.lo ≤ r.hi) ∧ l.Pairwise fun r s => r.hi + 1 < s.lo

theorem Rg.ext' {r s : Rg} (h1 : r.lo = s.lo) (h2 : r.hi = s.hi) : r = s := by cases r; cases s; simp_all

theorem canon_ext : ∀ {l m : List Rg}, Canon l → Canon m → (∀ v, has l v = has m v) → l = m
  | [], [], _, _, _ => rfl
  | [], s :: m, _, hm, h => by
    have h1 := h s.lo
    have h2 : has (s :: m) s.lo = true := has_iff.2 ⟨s, by simp, Int.le_refl _, hm.1 s (by simp)⟩
    rw [h2] at h1; simp [has] at h1
  | r :: l, [], hl, _, h => by
    have h1 := h r.lo
    have h2 : has (r :: l) r.lo = true := has_iff.2 ⟨r, by simp, Int.le_refl _, hl.1 r (by simp)⟩
    rw [h2] at h1; simp [has] at h1
  | r :: l, s :: m, hl, hm, h => by
    have hr := hl.1 r (by simp)
    have hs := hm.1 s (by simp)
    have pl := (List.pairwise_cons.1 hl.2).1
    have pm := (List.pairwise_cons.1 hm.2).1
    have mem : ∀ {r : Rg} {l : List Rg} {v : Int}, has (r :: l) v = true → (∀ s, s ∈ l → r.hi + 1 < s.lo) → r.lo ≤ r.hi → r.lo ≤ v ∧ (v ≤ r.hi ∨ r.hi + 1 < v) := by
      intro r l v h hp hr
      obtain ⟨t, ht, h1, h2⟩ := has_iff.1 h
      rcases List.mem_cons.1 ht with rfl | ht
      · omega
      · have := hp t ht; omega
    have a1 := mem (v := r.lo) ((h r.lo).symm.trans (has_iff.2 ⟨r, by simp, Int.le_refl _, hr⟩)) pm hs
    have a2 := mem (v := s.lo) ((h s.lo).trans (has_iff.2 ⟨s, by simp, Int.le_refl _, hs⟩)) pl hr
    have elo : r.lo = s.lo := by omega
    have ehi : r.hi = s.hi := by
      rcases Int.lt_trichotomy r.hi s.hi with hlt | heq | hgt
      · have := mem (v := r.hi + 1) ((h (r.hi + 1)).trans (has_iff.2 ⟨s, by simp, by omega, by omega⟩)) pl hr
        omega
      · exact heq
      · have := mem (v := s.hi + 1) ((h (s.hi + 1)).symm.trans (has_iff.2 ⟨r, by simp, by omega, by omega⟩)) pm hs
        omega
    have ers : r = s := Rg.ext' elo ehi
    subst ers
    have htl : l = m := by
      refine canon_ext ⟨fun t ht => hl.1 t (by simp [ht]), (List.pairwise_cons.1 hl.2).2⟩ ⟨fun t ht => hm.1 t (by simp [ht]), (List.pairwise_cons.1 hm.2).2⟩ fun v => ?_
      have key : ∀ {l m : List Rg}, (∀ s, s ∈ l → r.hi + 1 < s.lo) → (∀ v, has (r :: l) v = has (r :: m) v) → has l v = true → has m v = true := by
        intro l m hp hh hv
        obtain ⟨t, ht, h1, h2⟩ := has_iff.1 hv
        have h3 : has (r :: m) v = true := (hh v).symm.trans (has_iff.2 ⟨t, by simp [ht], h1, h2⟩)
        obtain ⟨u, hu, h4, h5⟩ := has_iff.1 h3
        rcases List.mem_cons.1 hu with rfl | hu
        · have := hp t ht; omega
        · exact has_iff.2 ⟨u, hu, h4, h5⟩
      rw [Bool.eq_iff_iff]
      exact ⟨key pl h, key pm fun v => (h v).symm⟩
    rw [htl]

theorem has_append (l m : List Rg) (v : Int) : has (l ++ m) v = (has l v || has m v) := by simp [has]
theorem has_one (r : Rg) (v : Int) : has [r] v = (decide (r.lo ≤ v) && decide (v ≤ r.hi)) := by simp [has]

theorem canon_append_one {l : List Rg} {r : Rg} (hl : Canon l) (hr : r.lo ≤ r.hi) (hp : ∀ s, s ∈ l → s.hi + 1 < r.lo) : Canon (l ++ [r]) := by
  refine ⟨fun s hs => ?_, ?_⟩
  · rcases List.mem_append.1 hs with hs | hs
    · exact hl.1 s hs
    · simp at hs; subst hs; exact hr
  · rw [List.pairwise_append]
    refine ⟨hl.2, by simp, fun s hs t ht => ?_⟩
    simp at ht; subst ht; exact hp s hs

structure KInv (f : Int → Bool) (out : List Rg) (p : Int) : Prop where
  canon : Canon out
  mem : ∀ v, has out v = (decide (0 ≤ v) && (decide (v < p) && f v))
  below : ∀ r, r ∈ out → r.hi < p

theorem keepS_inv {f : Int → Bool} {out : List Rg} {p to : Int} (h : KInv f out p) (h0 : 0 ≤ p) (h1 : p ≤ to) (h2 : to ≤ 4294967295) (hc : ∀ v, p ≤ v → v ≤ to → f v = f p) : KInv f (keepS f out (p, to)) (to + 1) := by
  have mem_of : ∀ (o : List Rg), (∀ v, has o v = (has out v || (decide (p ≤ v) && decide (v ≤ to)))) → f p = true → ∀ v, has o v = (decide (0 ≤ v) && (decide (v < to + 1) && f v)) := by
    intro o ho hf v
    rw [ho, h.mem, Bool.eq_iff_iff]
    simp only [Bool.or_eq_true, Bool.and_eq_true, decide_eq_true_eq]
    constructor
    · rintro (⟨a, b, c⟩ | ⟨a, b⟩)
      · exact ⟨a, by omega, c⟩
      · exact ⟨by omega, by omega, by rw [hc v a b]; exact hf⟩
    · rintro ⟨a, b, c⟩
      rcases Int.lt_or_le v p with hv | hv
      · exact .inl ⟨a, hv, c⟩
      · exact .inr ⟨hv, by omega⟩
  unfold keepS
  simp only
  cases hf : f p with
  | false =>
    simp only [Bool.false_eq_true, if_false]
    refine ⟨h.canon, fun v => ?_, fun r hr => by have := h.below r hr; omega⟩
    rw [h.mem, Bool.eq_iff_iff]
    simp only [Bool.and_eq_true, decide_eq_true_eq]
    constructor
    · rintro ⟨a, b, c⟩; exact ⟨a, by omega, c⟩
    · rintro ⟨a, b, c⟩
      refine ⟨a, ?_, c⟩
      rcases Int.lt_or_le v p with hv | hv
      · exact hv
      · have := hc v hv (by omega); rw [c, hf] at this; cases this
  | true =>
    simp only [if_true]
    rcases List.eq_nil_or_concat out with hnil | ⟨ini, r, hcat⟩
    · subst hnil
      simp only [List.getLast?_nil]
      refine ⟨?_, mem_of _ (fun v => ?_) hf, fun r hr => ?_⟩
      · have := canon_append_one h.canon (r := mkR p to) (by rw [mkR_lo (by omega) (by omega) (by omega) (by omega), mkR_hi (by omega) (by omega) (by omega) (by omega)]; omega) (fun s hs => by simp at hs)
        simpa using this
      · rw [has_one, mkR_lo (by omega) (by omega) (by omega) (by omega), mkR_hi (by omega) (by omega) (by omega) (by omega)]
        simp [has]
      · simp at hr; subst hr; rw [mkR_hi (by omega) (by omega) (by omega) (by omega)]; omega
    · rw [List.concat_eq_append] at hcat
      subst hcat
      simp only [List.getLast?_append, List.getLast?_singleton, Option.some_or, List.dropLast_concat]
      have hrp := h.below r (by simp)
      have hpw := List.pairwise_append.1 h.canon.2
      have hr1 := h.canon.1 r (by simp)
      split
      · rename_i he
        have b1 := r.l0; have b2 := r.l1
        have ci : Canon ini := ⟨fun t ht => h.canon.1 t (by simp [ht]), hpw.1⟩
        refine ⟨canon_append_one ci (by rw [mkR_lo (by omega) (by omega) (by omega) (by omega), mkR_hi (by omega) (by omega) (by omega) (by omega)]; omega) (fun s hs => ?_), mem_of _ (fun v => ?_) hf, fun t ht => ?_⟩
        · rw [mkR_lo (by omega) (by omega) (by omega) (by omega)]
          exact hpw.2.2 s hs r (by simp)
        · rw [has_append, has_append, has_one, has_one, mkR_lo (by omega) (by omega) (by omega) (by omega), mkR_hi (by omega) (by omega) (by omega) (by omega), Bool.eq_iff_iff]
          simp only [Bool.or_eq_true, Bool.and_eq_true, decide_eq_true_eq]
          constructor
          · rintro (a | ⟨a, b⟩)
            · exact .inl (.inl a)
            · rcases Int.lt_or_le v p with hv | hv
              · exact .inl (.inr ⟨a, by omega⟩)
              · exact .inr ⟨hv, b⟩
          · rintro ((a | ⟨a, b⟩) | ⟨a, b⟩)
            · exact .inl a
            · exact .inr ⟨a, by omega⟩
            · exact .inr ⟨by omega, b⟩
        · rcases List.mem_append.1 ht with ht | ht
          · have := h.below t (by simp [ht]); omega
          · simp at ht; subst ht; rw [mkR_hi (by omega) (by omega) (by omega) (by omega)]; omega
      · rename_i he
        refine ⟨canon_append_one h.canon (by rw [mkR_lo (by omega) (by omega) (by omega) (by omega), mkR_hi (by omega) (by omega) (by omega) (by omega)]; omega) (fun s hs => ?_), mem_of _ (fun v => ?_) hf, fun t ht => ?_⟩
        · rw [mkR_lo (by omega) (by omega) (by omega) (by omega)]
          rcases List.mem_append.1 hs with hs | hs
          · have := hpw.2.2 s hs r (by simp); omega
          · simp at hs; subst hs; omega
        · rw [has_append, has_one, mkR_lo (by omega) (by omega) (by omega) (by omega), mkR_hi (by omega) (by omega) (by omega) (by omega)]
        · rcases List.mem_append.1 ht with ht | ht
          · have := h.below t ht; omega
          · simp at ht; subst ht; rw [mkR_hi (by omega) (by omega) (by omega) (by omega)]; omega

theorem fold_inv {f : Int → Bool} {top : Int} (htop : top ≤ 4294967295) : ∀ (st : List Int) (p : Int) (out : List Rg), KInv f out p → (p :: st).Pairwise (· < ·) → (∀ x, x ∈ p :: st → 0 ≤ x ∧ x ≤ top) →
    (∀ s, s ∈ segs top (p :: st) → ∀ v, s.1 ≤ v → v ≤ s.2 → f v = f s.1) → KInv f ((segs top (p :: st)).foldl (keepS f) out) (top + 1)
  | [], p, out, h, hp, hb, hc => by
    have := hb p (by simp)
    exact keepS_inv h (by omega) (by omega) htop (hc (p, top) (by simp [segs]))
  | q :: st, p, out, h, hp, hb, hc => by
    have h1 := hb p (by simp)
    have h2 := hb q (by simp)
    have h3 : p < q := (List.pairwise_cons.1 hp).1 q (by simp)
    have k := keepS_inv (to := q - 1) h (by omega) (by omega) (by omega) (hc (p, q - 1) (by simp [segs]))
    rw [show q - 1 + 1 = q by omega] at k
    exact fold_inv htop st q _ k (List.pairwise_cons.1 hp).2 (fun x hx => hb x (by simp at hx ⊢; exact .inr hx)) (fun s hs => hc s (by simp only [segs, List.mem_cons]; exact .inr hs))

end Go.Proofs.Ytkpnlmainmlogaa
