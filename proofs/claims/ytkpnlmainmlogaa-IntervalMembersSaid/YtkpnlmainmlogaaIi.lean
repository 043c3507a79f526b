/- Valid, twice. -/
import Derived.Test.YtkpnlmainmlogaaIh
import Derived.Test.YtkpnlmainmlogaaIctx2
set_option linter.unusedVariables false
set_option linter.unusedSimpArgs false
set_option maxRecDepth 20000
namespace Go.Proofs.Ytkpnlmainmlogaa
open Go Go.Vm

theorem canon_nil : Canon [] := ⟨fun r hr => by simp at hr, by simp⟩
theorem canon_succ {l : List Rg} {k : Nat} {r : Rg} (hr : l[k]? = some r) (hc : Canon (l.take k)) : Canon (l.take (k + 1)) ↔ r.lo ≤ r.hi ∧ ∀ p, 0 < k → l[k - 1]? = some p → p.hi + 1 < r.lo := by
  have e : l.take (k + 1) = l.take k ++ [r] := by rw [List.take_add_one, hr]; rfl
  rw [e]
  constructor
  · intro h
    refine ⟨h.1 r (by simp), fun p hk hp => ?_⟩
    refine (List.pairwise_append.1 h.2).2.2 p ?_ r (by simp)
    exact List.mem_of_getElem? (i := k - 1) (by rw [List.getElem?_take_of_lt (by omega)]; exact hp)
  · rintro ⟨h1, h2⟩
    refine canon_append_one hc h1 fun s hs => ?_
    cases k with
    | zero => simp at hs
    | succ k =>
      have hlt : k < l.length := by
        have := (List.getElem?_eq_some_iff.1 hr).1; omega
      have hp : l[k]? = some l[k] := List.getElem?_eq_getElem hlt
      have h3 := h2 l[k] (by omega) (by simp)
      have e2 : l.take (k + 1) = l.take k ++ [l[k]] := by rw [List.take_add_one, hp]; rfl
      rw [e2] at hc hs
      have hle := hc.1 l[k] (List.mem_append.2 (.inr (List.mem_singleton.2 rfl)))
      rcases List.mem_append.1 hs with hs | hs
      · have := (List.pairwise_append.1 hc.2).2.2 s hs l[k] (List.mem_singleton.2 rfl); omega
      · simp at hs; subst hs; exact h3
theorem canon_take {l : List Rg} (h : Canon l) (k : Nat) : Canon (l.take k) :=
  ⟨fun r hr => h.1 r (List.mem_of_mem_take hr), h.2.sublist (List.take_sublist k l)⟩

/-- what a loop over the ranges has seen -/
def VInv (l : List Rg) (top : Int) (k : Nat) : Prop := Canon (l.take k) ∧ ∀ r, r ∈ l.take k → r.hi ≤ top
theorem vinv_zero (l : List Rg) (top : Int) : VInv l top 0 := ⟨by simp [canon_nil], fun r hr => by simp at hr⟩
theorem vinv_succ {l : List Rg} {top : Int} {k : Nat} {r : Rg} (hr : l[k]? = some r) (h : VInv l top k) (h1 : r.lo ≤ r.hi) (h2 : r.hi ≤ top) (h3 : ∀ p, 0 < k → l[k - 1]? = some p → p.hi + 1 < r.lo) : VInv l top (k + 1) := by
  refine ⟨(canon_succ hr h.1).2 ⟨h1, h3⟩, fun s hs => ?_⟩
  rw [List.take_add_one, hr] at hs
  rcases List.mem_append.1 hs with hs | hs
  · exact h.2 s hs
  · simp at hs; subst hs; exact h2
theorem valid_no {l : List Rg} {top : Int} {k : Nat} {r : Rg} (hr : l[k]? = some r) (h : ¬ (r.lo ≤ r.hi ∧ r.hi ≤ top ∧ ∀ p, 0 < k → l[k - 1]? = some p → p.hi + 1 < r.lo)) : ¬ (Canon l ∧ ∀ r, r ∈ l → r.hi ≤ top) := by
  rintro ⟨h1, h2⟩
  have h3 := (canon_succ hr (canon_take h1 k)).1 (canon_take h1 (k + 1))
  exact h ⟨h3.1, h2 r (List.mem_of_getElem? hr), h3.2⟩

/-- nsgref2.Valid -/
theorem c33 (l : List Rg) (top : Int) (hl : l.length < 100000) {K : AV → List Vm.Obj → Prop} (hK : ∀ s, (s = true ↔ Canon l ∧ ∀ r, r ∈ l → r.hi ≤ top) → K (.sb s) []) :
    ACall Try.prog 33 [encRs l, .v (.int .u32 top)] [] K := by
  refine ACall.bool (of33 rfl rfl ?_)
  (conv => whnf)
  refine Lp.intro Nat (fun k => ⟨0, [], [(0, encRs l), (1, .v (.int .u32 top)), (5, .v (.int .i64 k))]⟩) (fun k => k ≤ l.length ∧ VInv l top k) (fun k => l.length - k) 0 ?_ ?_ ?_
  · exact ⟨by omega, vinv_zero l top⟩
  · exact ⟨[], rfl, ⟨rfl, rfl, rfl, trivial⟩, trivial⟩
  · intro k ⟨hk, hinv⟩
    rcases Nat.lt_or_ge k l.length with hkl | hkl
    · obtain ⟨r, hr⟩ : ∃ r, l[k]? = some r := ⟨_, List.getElem?_eq_getElem hkl⟩
      have b1 := r.l0; have b2 := r.l1; have b3 := r.h0; have b4 := r.h1
      have no : ¬ (r.lo ≤ r.hi ∧ r.hi ≤ top ∧ ∀ p, 0 < k → l[k - 1]? = some p → p.hi + 1 < r.lo) → K (.sb false) [] := fun h => hK false (iff_of_false (by simp) (valid_no hr h))
      have next : ∀ σ, r.lo ≤ r.hi → r.hi ≤ top → (∀ p, 0 < k → l[k - 1]? = some p → p.hi + 1 < r.lo) → Le 0 ⟨0, [], [(0, encRs l), (1, .v (.int .u32 top)), (5, .v (.int .i64 ((k : Int) + 1)))]⟩ σ →
          ∃ g' : Nat, (g' ≤ l.length ∧ VInv l top g') ∧ l.length - g' < l.length - k ∧ Le 0 ⟨0, [], [(0, encRs l), (1, .v (.int .u32 top)), (5, .v (.int .i64 (g' : Int)))]⟩ σ :=
        fun σ h1 h2 h3 hle => ⟨k + 1, ⟨by omega, vinv_succ hr hinv h1 h2 h3⟩, by omega, hle⟩
      rcases Nat.eq_zero_or_pos k with hk0 | hk0
      · iterate 40 (all_goals ((conv => whnf); first | (with_reducible refine in_map hkl ?_) | (with_reducible refine ix_map hr ?_) | ((with_reducible refine sl_full ?ha ?_); (case ha => (first | with_reducible exact Nat.le_refl _ | with_reducible rfl | omega | (simp only [List.length_append, List.length_map, List.length_take, List.length_drop, List.length_cons, List.length_nil, List.length_set]; done) | (simp only [List.length_append, List.length_map, List.length_take, List.length_drop, List.length_cons, List.length_nil, List.length_set]; omega)))) | ((with_reducible refine Ob.intro ?ha ?_); (case ha => (first | (as_aux_lemma => kernel_rfl) | ((try simp only [List.forall_mem_append, List.forall_mem_map, List.forall_mem_cons, List.forall_mem_nil, and_true, true_and]); (repeat' apply And.intro) <;> first | (intros; rfl) | omega | (simp only [List.length_append, List.length_map, List.length_take, List.length_drop, List.length_cons, List.length_nil, List.length_set]; omega) | (intro _ h; cases h))))) | ((with_reducible refine br_lt ?_)) | ((with_reducible refine br_lf ?_)) | ((with_reducible refine br_pos ?ha ?_); (case ha => (first | with_reducible assumption | omega | (simp only [List.length_append, List.length_map, List.length_take, List.length_drop, List.length_cons, List.length_nil, List.length_set]; omega)))) | ((with_reducible refine br_neg ?ha ?_); (case ha => (first | with_reducible assumption | omega | (simp only [List.length_append, List.length_map, List.length_take, List.length_drop, List.length_cons, List.length_nil, List.length_set]; omega)))) | ((with_reducible refine br_t ?ha ?_); (case ha => with_reducible assumption)) | ((with_reducible refine br_f ?ha ?_); (case ha => with_reducible assumption)) | ((with_reducible refine br_dec (fun h => ?_) (fun h => ?_))) | ((with_reducible refine br_not ?_)) | ((with_reducible refine br_b (fun h => ?_) (fun h => ?_))) | ((with_reducible refine wr_i64 rfl ?ha ?hb ?_); (case ha => (first | with_reducible assumption | omega | (simp only [List.length_append, List.length_map, List.length_take, List.length_drop, List.length_cons, List.length_nil, List.length_set]; omega))); (case hb => (first | with_reducible assumption | omega | (simp only [List.length_append, List.length_map, List.length_take, List.length_drop, List.length_cons, List.length_nil, List.length_set]; omega)))) | ((with_reducible refine wr_u64 rfl ?ha ?hb ?_); (case ha => (first | with_reducible assumption | omega | (simp only [List.length_append, List.length_map, List.length_take, List.length_drop, List.length_cons, List.length_nil, List.length_set]; omega))); (case hb => (first | with_reducible assumption | omega | (simp only [List.length_append, List.length_map, List.length_take, List.length_drop, List.length_cons, List.length_nil, List.length_set]; omega)))) | ((with_reducible refine wr_u32 rfl ?ha ?hb ?_); (case ha => (first | with_reducible assumption | omega | (simp only [List.length_append, List.length_map, List.length_take, List.length_drop, List.length_cons, List.length_nil, List.length_set]; omega))); (case hb => (first | with_reducible assumption | omega | (simp only [List.length_append, List.length_map, List.length_take, List.length_drop, List.length_cons, List.length_nil, List.length_set]; omega)))) | ((with_reducible refine And.intro ?_ ?_)) | skip))
        all_goals first
          | exact next _ (by omega) (by omega) (by intros; omega) ⟨[], rfl, ⟨rfl, rfl, rfl, trivial⟩, trivial⟩
          | exact .inl ⟨false, rfl, no (by omega)⟩
      · obtain ⟨p, hp⟩ : ∃ p, l[k - 1]? = some p := ⟨_, List.getElem?_eq_getElem (by omega)⟩
        have p3 := p.h0; have p4 := p.h1
        have hj : ((k : Int) - 1 = ((k - 1 : Nat) : Int)) ∧ k - 1 < (l.map encR).length := by rw [List.length_map]; omega
        iterate 40 (all_goals ((conv => whnf); first | (with_reducible refine in_map hkl ?_) | (with_reducible refine ix_map hr ?_) | (with_reducible refine In.intro (k - 1) hj.1 hj.2 ?_) | (with_reducible refine ix_map hp ?_) | ((with_reducible refine sl_full ?ha ?_); (case ha => (first | with_reducible exact Nat.le_refl _ | with_reducible rfl | omega | (simp only [List.length_append, List.length_map, List.length_take, List.length_drop, List.length_cons, List.length_nil, List.length_set]; done) | (simp only [List.length_append, List.length_map, List.length_take, List.length_drop, List.length_cons, List.length_nil, List.length_set]; omega)))) | ((with_reducible refine Ob.intro ?ha ?_); (case ha => (first | (as_aux_lemma => kernel_rfl) | ((try simp only [List.forall_mem_append, List.forall_mem_map, List.forall_mem_cons, List.forall_mem_nil, and_true, true_and]); (repeat' apply And.intro) <;> first | (intros; rfl) | omega | (simp only [List.length_append, List.length_map, List.length_take, List.length_drop, List.length_cons, List.length_nil, List.length_set]; omega) | (intro _ h; cases h))))) | ((with_reducible refine br_lt ?_)) | ((with_reducible refine br_lf ?_)) | ((with_reducible refine br_pos ?ha ?_); (case ha => (first | with_reducible assumption | omega | (simp only [List.length_append, List.length_map, List.length_take, List.length_drop, List.length_cons, List.length_nil, List.length_set]; omega)))) | ((with_reducible refine br_neg ?ha ?_); (case ha => (first | with_reducible assumption | omega | (simp only [List.length_append, List.length_map, List.length_take, List.length_drop, List.length_cons, List.length_nil, List.length_set]; omega)))) | ((with_reducible refine br_t ?ha ?_); (case ha => with_reducible assumption)) | ((with_reducible refine br_f ?ha ?_); (case ha => with_reducible assumption)) | ((with_reducible refine br_dec (fun h => ?_) (fun h => ?_))) | ((with_reducible refine br_not ?_)) | ((with_reducible refine br_b (fun h => ?_) (fun h => ?_))) | ((with_reducible refine wr_i64 rfl ?ha ?hb ?_); (case ha => (first | with_reducible assumption | omega | (simp only [List.length_append, List.length_map, List.length_take, List.length_drop, List.length_cons, List.length_nil, List.length_set]; omega))); (case hb => (first | with_reducible assumption | omega | (simp only [List.length_append, List.length_map, List.length_take, List.length_drop, List.length_cons, List.length_nil, List.length_set]; omega)))) | ((with_reducible refine wr_u64 rfl ?ha ?hb ?_); (case ha => (first | with_reducible assumption | omega | (simp only [List.length_append, List.length_map, List.length_take, List.length_drop, List.length_cons, List.length_nil, List.length_set]; omega))); (case hb => (first | with_reducible assumption | omega | (simp only [List.length_append, List.length_map, List.length_take, List.length_drop, List.length_cons, List.length_nil, List.length_set]; omega)))) | ((with_reducible refine wr_u32 rfl ?ha ?hb ?_); (case ha => (first | with_reducible assumption | omega | (simp only [List.length_append, List.length_map, List.length_take, List.length_drop, List.length_cons, List.length_nil, List.length_set]; omega))); (case hb => (first | with_reducible assumption | omega | (simp only [List.length_append, List.length_map, List.length_take, List.length_drop, List.length_cons, List.length_nil, List.length_set]; omega)))) | ((with_reducible refine And.intro ?_ ?_)) | skip))
        all_goals first
          | exact next _ (by omega) (by omega) (fun q _ hq => by rw [hp] at hq; cases hq; omega) ⟨[], rfl, ⟨rfl, rfl, rfl, trivial⟩, trivial⟩
          | exact .inl ⟨false, rfl, no (fun hh => by have := hh.2.2 p hk0 hp; omega)⟩
    · iterate 6 (all_goals ((conv => whnf); first | (with_reducible refine in_map hkl ?_) | ((with_reducible refine sl_full ?ha ?_); (case ha => (first | with_reducible exact Nat.le_refl _ | with_reducible rfl | omega | (simp only [List.length_append, List.length_map, List.length_take, List.length_drop, List.length_cons, List.length_nil, List.length_set]; done) | (simp only [List.length_append, List.length_map, List.length_take, List.length_drop, List.length_cons, List.length_nil, List.length_set]; omega)))) | ((with_reducible refine Ob.intro ?ha ?_); (case ha => (first | (as_aux_lemma => kernel_rfl) | ((try simp only [List.forall_mem_append, List.forall_mem_map, List.forall_mem_cons, List.forall_mem_nil, and_true, true_and]); (repeat' apply And.intro) <;> first | (intros; rfl) | omega | (simp only [List.length_append, List.length_map, List.length_take, List.length_drop, List.length_cons, List.length_nil, List.length_set]; omega) | (intro _ h; cases h))))) | ((with_reducible refine br_lt ?_)) | ((with_reducible refine br_lf ?_)) | ((with_reducible refine br_pos ?ha ?_); (case ha => (first | with_reducible assumption | omega | (simp only [List.length_append, List.length_map, List.length_take, List.length_drop, List.length_cons, List.length_nil, List.length_set]; omega)))) | ((with_reducible refine br_neg ?ha ?_); (case ha => (first | with_reducible assumption | omega | (simp only [List.length_append, List.length_map, List.length_take, List.length_drop, List.length_cons, List.length_nil, List.length_set]; omega)))) | ((with_reducible refine br_t ?ha ?_); (case ha => with_reducible assumption)) | ((with_reducible refine br_f ?ha ?_); (case ha => with_reducible assumption)) | ((with_reducible refine br_dec (fun h => ?_) (fun h => ?_))) | ((with_reducible refine br_not ?_)) | ((with_reducible refine br_b (fun h => ?_) (fun h => ?_))) | ((with_reducible refine wr_i64 rfl ?ha ?hb ?_); (case ha => (first | with_reducible assumption | omega | (simp only [List.length_append, List.length_map, List.length_take, List.length_drop, List.length_cons, List.length_nil, List.length_set]; omega))); (case hb => (first | with_reducible assumption | omega | (simp only [List.length_append, List.length_map, List.length_take, List.length_drop, List.length_cons, List.length_nil, List.length_set]; omega)))) | ((with_reducible refine wr_u64 rfl ?ha ?hb ?_); (case ha => (first | with_reducible assumption | omega | (simp only [List.length_append, List.length_map, List.length_take, List.length_drop, List.length_cons, List.length_nil, List.length_set]; omega))); (case hb => (first | with_reducible assumption | omega | (simp only [List.length_append, List.length_map, List.length_take, List.length_drop, List.length_cons, List.length_nil, List.length_set]; omega)))) | ((with_reducible refine wr_u32 rfl ?ha ?hb ?_); (case ha => (first | with_reducible assumption | omega | (simp only [List.length_append, List.length_map, List.length_take, List.length_drop, List.length_cons, List.length_nil, List.length_set]; omega))); (case hb => (first | with_reducible assumption | omega | (simp only [List.length_append, List.length_map, List.length_take, List.length_drop, List.length_cons, List.length_nil, List.length_set]; omega)))) | ((with_reducible refine And.intro ?_ ?_)) | skip))
      have e : l.take k = l := List.take_of_length_le hkl
      refine .inl ⟨true, rfl, hK true (iff_of_true rfl ?_)⟩
      unfold VInv at hinv
      rw [e] at hinv
      exact hinv

end Go.Proofs.Ytkpnlmainmlogaa
