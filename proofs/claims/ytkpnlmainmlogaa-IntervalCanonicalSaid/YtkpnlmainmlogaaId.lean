/- nsgref2: Starts. -/
import Derived.Test.YtkpnlmainmlogaaIc
set_option linter.unusedVariables false
set_option linter.unusedSimpArgs false
set_option maxRecDepth 20000
namespace Go.Proofs.Ytkpnlmainmlogaa
open Go Go.Vm

def stP (top : Int) (out : List Int) (r : Rg) : List Int := if r.lo ≤ r.hi then insT (insT out r.lo top) (r.hi + 1) top else out
def starts (l : List Rg) (top : Int) : List Int := l.foldl (stP top) [0]
theorem ins_length : ∀ (l : List Int) (v : Int), (ins l v).length ≤ l.length + 1
  | [], v => by simp [ins]
  | x :: xs, v => by
    have := ins_length xs v
    simp only [ins]
    split
    · simp; omega
    · split <;> simp
theorem insT_length (l : List Int) (v top : Int) : (insT l v top).length ≤ l.length + 1 := by
  unfold insT; split
  · omega
  · exact ins_length _ _
theorem stP_length (top : Int) (out : List Int) (r : Rg) : (stP top out r).length ≤ out.length + 2 := by
  unfold stP; split
  · have := insT_length out r.lo top
    have := insT_length (insT out r.lo top) (r.hi + 1) top
    omega
  · omega
theorem foldl_succ {α β : Type} {f : β → α → β} {b : β} {l : List α} {k : Nat} {r : α} (h : l[k]? = some r) : (l.take (k + 1)).foldl f b = f ((l.take k).foldl f b) r := by
  simp [List.take_add_one, h]

/-- nsgref2.Starts -/
theorem c45 (l : List Rg) (top : Int) (ht0 : 0 ≤ top) (ht : top ≤ 4294967295) (hl : l.length < 100000) {K : AV → List Vm.Obj → Prop} (hK : K (encUs (starts l top)) []) :
    ACall Try.prog 45 [encRs l, .v (.int .u32 top)] [] K := by
  refine of45 rfl rfl ?_
  iterate 3 ((conv => whnf); first | ((with_reducible refine sl_full ?ha ?_); (case ha => (first | with_reducible exact Nat.le_refl _ | with_reducible rfl | omega | (simp only [List.length_append, List.length_map, List.length_take, List.length_drop, List.length_cons, List.length_nil, List.length_set]; done) | (simp only [List.length_append, List.length_map, List.length_take, List.length_drop, List.length_cons, List.length_nil, List.length_set]; omega)))) | ((with_reducible refine Ob.intro ?ha ?_); (case ha => (first | (as_aux_lemma => kernel_rfl) | ((try simp only [List.forall_mem_append, List.forall_mem_map, List.forall_mem_cons, List.forall_mem_nil, and_true, true_and]); (repeat' apply And.intro) <;> first | (intros; rfl) | omega | (simp only [List.length_append, List.length_map, List.length_take, List.length_drop, List.length_cons, List.length_nil, List.length_set]; omega) | (intro _ h; cases h))))) | skip)
  refine Lp.intro Nat (fun k => ⟨1, [], [(0, encRs l), (1, .v (.int .u32 top)), (5, encUs ((l.take k).foldl (stP top) [0])), (6, .v (.int .i64 k))]⟩) (fun k => k ≤ l.length ∧ ((l.take k).foldl (stP top) [0]).length ≤ 2 * k + 1) (fun k => l.length - k) 0 ?_ ?_ ?_
  · exact ⟨by omega, by simp⟩
  · exact ⟨[], rfl, ⟨rfl, rfl, rfl, rfl, trivial⟩, trivial⟩
  · intro k ⟨hk, hlen⟩
    rcases Nat.lt_or_ge k l.length with hkl | hkl
    · obtain ⟨r, hr⟩ : ∃ r, l[k]? = some r := ⟨_, List.getElem?_eq_getElem hkl⟩
      have b1 := r.l0; have b2 := r.l1; have b3 := r.h0; have b4 := r.h1
      have hs := foldl_succ (f := stP top) (b := [0]) hr
      have next : ∀ σ, Le 0 ⟨1, [], [(0, encRs l), (1, .v (.int .u32 top)), (5, encUs (stP top ((l.take k).foldl (stP top) [0]) r)), (6, .v (.int .i64 ((k : Int) + 1)))]⟩ σ →
          ∃ g' : Nat, (g' ≤ l.length ∧ ((l.take g').foldl (stP top) [0]).length ≤ 2 * g' + 1) ∧ l.length - g' < l.length - k ∧ Le 0 ⟨1, [], [(0, encRs l), (1, .v (.int .u32 top)), (5, encUs ((l.take g').foldl (stP top) [0])), (6, .v (.int .i64 (g' : Int)))]⟩ σ := by
        intro σ h
        have := stP_length top ((l.take k).foldl (stP top) [0]) r
        exact ⟨k + 1, ⟨by omega, by rw [hs]; omega⟩, by omega, by rw [hs]; exact h⟩
      generalize (l.take k).foldl (stP top) [0] = out at hs hlen next ⊢
      have i1 := insT_length out r.lo top
      iterate 32 (all_goals ((conv => whnf); first | (with_reducible refine in_map hkl ?_) | (with_reducible refine ix_map hr ?_) | (with_reducible refine c51 _ _ _ ht0 ht (by omega) ?_) | ((with_reducible refine sl_full ?ha ?_); (case ha => (first | with_reducible exact Nat.le_refl _ | with_reducible rfl | omega | (simp only [List.length_append, List.length_map, List.length_take, List.length_drop, List.length_cons, List.length_nil, List.length_set]; done) | (simp only [List.length_append, List.length_map, List.length_take, List.length_drop, List.length_cons, List.length_nil, List.length_set]; omega)))) | ((with_reducible refine Ob.intro ?ha ?_); (case ha => (first | (as_aux_lemma => kernel_rfl) | ((try simp only [List.forall_mem_append, List.forall_mem_map, List.forall_mem_cons, List.forall_mem_nil, and_true, true_and]); (repeat' apply And.intro) <;> first | (intros; rfl) | omega | (simp only [List.length_append, List.length_map, List.length_take, List.length_drop, List.length_cons, List.length_nil, List.length_set]; omega) | (intro _ h; cases h))))) | ((with_reducible refine br_lt ?_)) | ((with_reducible refine br_lf ?_)) | ((with_reducible refine br_pos ?ha ?_); (case ha => (first | with_reducible assumption | omega | (simp only [List.length_append, List.length_map, List.length_take, List.length_drop, List.length_cons, List.length_nil, List.length_set]; omega)))) | ((with_reducible refine br_neg ?ha ?_); (case ha => (first | with_reducible assumption | omega | (simp only [List.length_append, List.length_map, List.length_take, List.length_drop, List.length_cons, List.length_nil, List.length_set]; omega)))) | ((with_reducible refine br_t ?ha ?_); (case ha => with_reducible assumption)) | ((with_reducible refine br_f ?ha ?_); (case ha => with_reducible assumption)) | ((with_reducible refine br_dec (fun h => ?_) (fun h => ?_))) | ((with_reducible refine br_not ?_)) | ((with_reducible refine br_b (fun h => ?_) (fun h => ?_))) | ((with_reducible refine wr_i64 rfl ?ha ?hb ?_); (case ha => (first | with_reducible assumption | omega | (simp only [List.length_append, List.length_map, List.length_take, List.length_drop, List.length_cons, List.length_nil, List.length_set]; omega))); (case hb => (first | with_reducible assumption | omega | (simp only [List.length_append, List.length_map, List.length_take, List.length_drop, List.length_cons, List.length_nil, List.length_set]; omega)))) | ((with_reducible refine wr_u64 rfl ?ha ?hb ?_); (case ha => (first | with_reducible assumption | omega | (simp only [List.length_append, List.length_map, List.length_take, List.length_drop, List.length_cons, List.length_nil, List.length_set]; omega))); (case hb => (first | with_reducible assumption | omega | (simp only [List.length_append, List.length_map, List.length_take, List.length_drop, List.length_cons, List.length_nil, List.length_set]; omega)))) | ((with_reducible refine wr_u32 rfl ?ha ?hb ?_); (case ha => (first | with_reducible assumption | omega | (simp only [List.length_append, List.length_map, List.length_take, List.length_drop, List.length_cons, List.length_nil, List.length_set]; omega))); (case hb => (first | with_reducible assumption | omega | (simp only [List.length_append, List.length_map, List.length_take, List.length_drop, List.length_cons, List.length_nil, List.length_set]; omega)))) | ((with_reducible refine And.intro ?_ ?_)) | skip))
      all_goals
        refine next _ ?_
        unfold stP
        first
        | (rw [if_pos (by assumption)]; exact ⟨[], rfl, ⟨rfl, rfl, rfl, rfl, trivial⟩, trivial⟩)
        | (rw [if_neg (by assumption)]; exact ⟨[], rfl, ⟨rfl, rfl, rfl, rfl, trivial⟩, trivial⟩)
    · iterate 3 (all_goals ((conv => whnf); first | (with_reducible refine in_map hkl ?_) | ((with_reducible refine sl_full ?ha ?_); (case ha => (first | with_reducible exact Nat.le_refl _ | with_reducible rfl | omega | (simp only [List.length_append, List.length_map, List.length_take, List.length_drop, List.length_cons, List.length_nil, List.length_set]; done) | (simp only [List.length_append, List.length_map, List.length_take, List.length_drop, List.length_cons, List.length_nil, List.length_set]; omega)))) | ((with_reducible refine Ob.intro ?ha ?_); (case ha => (first | (as_aux_lemma => kernel_rfl) | ((try simp only [List.forall_mem_append, List.forall_mem_map, List.forall_mem_cons, List.forall_mem_nil, and_true, true_and]); (repeat' apply And.intro) <;> first | (intros; rfl) | omega | (simp only [List.length_append, List.length_map, List.length_take, List.length_drop, List.length_cons, List.length_nil, List.length_set]; omega) | (intro _ h; cases h))))) | ((with_reducible refine br_lt ?_)) | ((with_reducible refine br_lf ?_)) | ((with_reducible refine br_pos ?ha ?_); (case ha => (first | with_reducible assumption | omega | (simp only [List.length_append, List.length_map, List.length_take, List.length_drop, List.length_cons, List.length_nil, List.length_set]; omega)))) | ((with_reducible refine br_neg ?ha ?_); (case ha => (first | with_reducible assumption | omega | (simp only [List.length_append, List.length_map, List.length_take, List.length_drop, List.length_cons, List.length_nil, List.length_set]; omega)))) | ((with_reducible refine br_t ?ha ?_); (case ha => with_reducible assumption)) | ((with_reducible refine br_f ?ha ?_); (case ha => with_reducible assumption)) | ((with_reducible refine br_dec (fun h => ?_) (fun h => ?_))) | ((with_reducible refine br_not ?_)) | ((with_reducible refine br_b (fun h => ?_) (fun h => ?_))) | ((with_reducible refine wr_i64 rfl ?ha ?hb ?_); (case ha => (first | with_reducible assumption | omega | (simp only [List.length_append, List.length_map, List.length_take, List.length_drop, List.length_cons, List.length_nil, List.length_set]; omega))); (case hb => (first | with_reducible assumption | omega | (simp only [List.length_append, List.length_map, List.length_take, List.length_drop, List.length_cons, List.length_nil, List.length_set]; omega)))) | ((with_reducible refine wr_u64 rfl ?ha ?hb ?_); (case ha => (first | with_reducible assumption | omega | (simp only [List.length_append, List.length_map, List.length_take, List.length_drop, List.length_cons, List.length_nil, List.length_set]; omega))); (case hb => (first | with_reducible assumption | omega | (simp only [List.length_append, List.length_map, List.length_take, List.length_drop, List.length_cons, List.length_nil, List.length_set]; omega)))) | ((with_reducible refine wr_u32 rfl ?ha ?hb ?_); (case ha => (first | with_reducible assumption | omega | (simp only [List.length_append, List.length_map, List.length_take, List.length_drop, List.length_cons, List.length_nil, List.length_set]; omega))); (case hb => (first | with_reducible assumption | omega | (simp only [List.length_append, List.length_map, List.length_take, List.length_drop, List.length_cons, List.length_nil, List.length_set]; omega)))) | ((with_reducible refine And.intro ?_ ?_)) | skip))
      have e : l.take k = l := List.take_of_length_le hkl
      rw [starts] at hK
      rw [e]
      exact hK

end Go.Proofs.Ytkpnlmainmlogaa
