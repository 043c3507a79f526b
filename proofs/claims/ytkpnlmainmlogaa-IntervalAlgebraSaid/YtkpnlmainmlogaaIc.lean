/- nsgref2: Insert, Starts. -/
import Derived.Test.YtkpnlmainmlogaaIb
set_option linter.unusedVariables false
set_option linter.unusedSimpArgs false
set_option maxRecDepth 20000
namespace Go.Proofs.Ytkpnlmainmlogaa
open Go Go.Vm

noncomputable def encU (x : Int) : AV := .v (.int .u64 x)
noncomputable abbrev encUs (l : List Int) : AV := .lst (l.map encU)

def ins : List Int → Int → List Int
  | [], v => [v]
  | x :: xs, v => if x < v then x :: ins xs v else if x = v then x :: xs else v :: x :: xs
theorem ins_take : ∀ (l : List Int) (v : Int) (k : Nat), (∀ x, x ∈ l.take k → x < v) → ins l v = l.take k ++ ins (l.drop k) v
  | [], v, k, h => by simp [ins]
  | x :: xs, v, 0, h => by simp
  | x :: xs, v, k + 1, h => by
    have hx : x < v := h x (by simp)
    rw [List.take_succ_cons, List.drop_succ_cons, List.cons_append, ← ins_take xs v k (fun y hy => h y (by simp [hy]))]
    simp [ins, hx]
def insT (l : List Int) (v top : Int) : List Int := if top < v then l else ins l v

/-- nsgref2.Insert -/
theorem c51 (l : List Int) (v top : Int) (ht0 : 0 ≤ top) (ht : top ≤ 4294967295) (hl : l.length < 1000000) {K : AV → List Vm.Obj → Prop} (hK : K (encUs (insT l v top)) []) :
    ACall Try.prog 51 [encUs l, .v (.int .u64 v), .v (.int .u32 top)] [] K := by
  refine of51 rfl rfl ?_
  conv => whnf
  refine wr_u64 (r := top) (by omega) (by omega) (by omega) ?_
  conv => whnf
  refine br_dec (fun h => ?_) (fun h => ?_)
  · conv => whnf
    rw [insT, if_pos h] at hK
    exact hK
  · rw [insT, if_neg h] at hK
    conv => whnf
    refine Lp.intro Nat (fun k => ⟨0, [], [(0, encUs l), (1, .v (.int .u64 v)), (7, .v (.int .i64 k))]⟩) (fun k => k ≤ l.length ∧ ∀ x, x ∈ l.take k → x < v) (fun k => l.length - k) 0 ?_ ?_ ?_
    · exact ⟨by omega, by simp⟩
    · exact ⟨[], rfl, ⟨rfl, rfl, rfl, trivial⟩, trivial⟩
    · intro k ⟨hk, hinv⟩
      have hk2 := ins_take l v k hinv
      conv => whnf
      refine br_dec (fun h => ?_) (fun h => ?_)
      · have hkl : k < l.length := by simp at h; omega
        conv => whnf
        refine in_map hkl ?_
        refine ix_any hkl (fun x hx => ?_)
        conv => whnf
        refine br_dec (fun h1 => ?_) (fun h1 => ?_)
        · conv => whnf
          refine wr_i64 (r := ((k + 1 : Nat) : Int)) (by omega) (by omega) (by omega) ?_
          conv => whnf
          refine ⟨k + 1, ⟨by omega, ?_⟩, by omega, ⟨[], rfl, ⟨rfl, rfl, rfl, trivial⟩, trivial⟩⟩
          intro y hy
          rw [List.take_add_one, hx] at hy
          simp only [Option.toList_some, List.mem_append, List.mem_singleton] at hy
          rcases hy with hy | rfl
          · exact hinv y hy
          · exact h1
        · conv => whnf
          refine br_pos h ?_
          conv => whnf
          refine in_map hkl ?_
          refine ix_map hx ?_
          conv => whnf
          refine br_dec (fun h2 => ?_) (fun h2 => ?_)
          · conv => whnf
            have e : ins l v = l := by
              rw [hk2, List.drop_eq_getElem_cons hkl]
              have : l[k] = x := by rw [List.getElem?_eq_getElem hkl] at hx; exact Option.some.inj hx
              rw [this, h2]
              simp only [ins, Int.lt_irrefl, if_false, if_true]
              rw [← h2, ← this, ← List.drop_eq_getElem_cons hkl, List.take_append_drop]
            rw [e] at hK
            exact hK
          · conv => whnf
            refine .intro (by kernel_rfl) ?_
            conv => whnf
            refine .intro (fun x hx => by obtain ⟨y, _, rfl⟩ := List.mem_map.1 hx; rfl) ?_
            refine Sb.intro 0 k rfl rfl (by omega) (by simp; omega) ?_
            refine sl_map (by omega) ?_
            conv => whnf
            refine .intro (fun x hx => by obtain ⟨y, _, rfl⟩ := List.mem_map.1 hx; rfl) ?_
            refine Sb.intro k l.length rfl (by simp) (by omega) (by simp) ?_
            refine sl_map (by omega) ?_
            conv => whnf
            have fin : K (.lst ([] ++ (List.take (k - 0) (List.drop 0 l)).map encU ++ [encU v] ++ (List.take (l.length - k) (List.drop k l)).map encU)) [] := by
              have e : [] ++ (List.take (k - 0) (List.drop 0 l)).map encU ++ [encU v] ++ (List.take (l.length - k) (List.drop k l)).map encU = (ins l v).map encU := by
                have e2 : ins (l.drop k) v = v :: l.drop k := by
                  rw [List.drop_eq_getElem_cons hkl]
                  have : l[k] = x := by rw [List.getElem?_eq_getElem hkl] at hx; exact Option.some.inj hx
                  rw [this]
                  simp only [ins, h1, h2, if_false]
                rw [hk2, e2]
                simp [List.take_of_length_le]
              rw [e]; exact hK
            refine ⟨?_, ?_⟩
            · (conv => whnf)
              refine ⟨?_, ?_⟩
              · iterate 10 ((conv => whnf); first | ((with_reducible refine sl_full ?ha ?_); (case ha => (first | with_reducible exact Nat.le_refl _ | with_reducible rfl | omega | (simp only [List.length_append, List.length_map, List.length_take, List.length_drop, List.length_cons, List.length_nil, List.length_set]; done) | (simp only [List.length_append, List.length_map, List.length_take, List.length_drop, List.length_cons, List.length_nil, List.length_set]; omega)))) | ((with_reducible refine Ob.intro ?ha ?_); (case ha => (first | (as_aux_lemma => kernel_rfl) | ((try simp only [List.forall_mem_append, List.forall_mem_map, List.forall_mem_cons, List.forall_mem_nil, and_true, true_and]); (repeat' apply And.intro) <;> first | (intros; rfl) | omega | (simp only [List.length_append, List.length_map, List.length_take, List.length_drop, List.length_cons, List.length_nil, List.length_set]; omega) | (intro _ h; cases h))))) | skip)
                (conv => whnf)
                exact fin
              · iterate 10 ((conv => whnf); first | ((with_reducible refine sl_full ?ha ?_); (case ha => (first | with_reducible exact Nat.le_refl _ | with_reducible rfl | omega | (simp only [List.length_append, List.length_map, List.length_take, List.length_drop, List.length_cons, List.length_nil, List.length_set]; done) | (simp only [List.length_append, List.length_map, List.length_take, List.length_drop, List.length_cons, List.length_nil, List.length_set]; omega)))) | ((with_reducible refine Ob.intro ?ha ?_); (case ha => (first | (as_aux_lemma => kernel_rfl) | ((try simp only [List.forall_mem_append, List.forall_mem_map, List.forall_mem_cons, List.forall_mem_nil, and_true, true_and]); (repeat' apply And.intro) <;> first | (intros; rfl) | omega | (simp only [List.length_append, List.length_map, List.length_take, List.length_drop, List.length_cons, List.length_nil, List.length_set]; omega) | (intro _ h; cases h))))) | skip)
                (conv => whnf)
                exact fin
            · iterate 10 ((conv => whnf); first | ((with_reducible refine sl_full ?ha ?_); (case ha => (first | with_reducible exact Nat.le_refl _ | with_reducible rfl | omega | (simp only [List.length_append, List.length_map, List.length_take, List.length_drop, List.length_cons, List.length_nil, List.length_set]; done) | (simp only [List.length_append, List.length_map, List.length_take, List.length_drop, List.length_cons, List.length_nil, List.length_set]; omega)))) | ((with_reducible refine Ob.intro ?ha ?_); (case ha => (first | (as_aux_lemma => kernel_rfl) | ((try simp only [List.forall_mem_append, List.forall_mem_map, List.forall_mem_cons, List.forall_mem_nil, and_true, true_and]); (repeat' apply And.intro) <;> first | (intros; rfl) | omega | (simp only [List.length_append, List.length_map, List.length_take, List.length_drop, List.length_cons, List.length_nil, List.length_set]; omega) | (intro _ h; cases h))))) | skip)
              (conv => whnf)
              exact fin
      · (conv => whnf)
        have hkl : k = l.length := by simp at h; omega
        refine br_neg h ?_
        (conv => whnf)
        refine .intro (by as_aux_lemma => kernel_rfl) ?_
        (conv => whnf)
        refine .intro (fun x hx => by obtain ⟨y, _, rfl⟩ := List.mem_map.1 hx; rfl) ?_
        refine Sb.intro 0 k rfl rfl (by omega) (by simp; omega) ?_
        refine sl_map (by omega) ?_
        (conv => whnf)
        refine .intro (fun x hx => by obtain ⟨y, _, rfl⟩ := List.mem_map.1 hx; rfl) ?_
        refine Sb.intro k l.length rfl (by simp) (by omega) (by simp) ?_
        refine sl_map (by omega) ?_
        (conv => whnf)
        have fin : K (.lst ([] ++ (List.take (k - 0) (List.drop 0 l)).map encU ++ [encU v] ++ (List.take (l.length - k) (List.drop k l)).map encU)) [] := by
          have e : [] ++ (List.take (k - 0) (List.drop 0 l)).map encU ++ [encU v] ++ (List.take (l.length - k) (List.drop k l)).map encU = (ins l v).map encU := by
            subst hkl
            rw [hk2]
            simp [ins]
          rw [e]; exact hK
        refine ⟨?_, ?_⟩
        · (conv => whnf)
          refine ⟨?_, ?_⟩
          · iterate 10 ((conv => whnf); first | ((with_reducible refine sl_full ?ha ?_); (case ha => (first | with_reducible exact Nat.le_refl _ | with_reducible rfl | omega | (simp only [List.length_append, List.length_map, List.length_take, List.length_drop, List.length_cons, List.length_nil, List.length_set]; done) | (simp only [List.length_append, List.length_map, List.length_take, List.length_drop, List.length_cons, List.length_nil, List.length_set]; omega)))) | ((with_reducible refine Ob.intro ?ha ?_); (case ha => (first | (as_aux_lemma => kernel_rfl) | ((try simp only [List.forall_mem_append, List.forall_mem_map, List.forall_mem_cons, List.forall_mem_nil, and_true, true_and]); (repeat' apply And.intro) <;> first | (intros; rfl) | omega | (simp only [List.length_append, List.length_map, List.length_take, List.length_drop, List.length_cons, List.length_nil, List.length_set]; omega) | (intro _ h; cases h))))) | skip)
            (conv => whnf)
            exact fin
          · iterate 10 ((conv => whnf); first | ((with_reducible refine sl_full ?ha ?_); (case ha => (first | with_reducible exact Nat.le_refl _ | with_reducible rfl | omega | (simp only [List.length_append, List.length_map, List.length_take, List.length_drop, List.length_cons, List.length_nil, List.length_set]; done) | (simp only [List.length_append, List.length_map, List.length_take, List.length_drop, List.length_cons, List.length_nil, List.length_set]; omega)))) | ((with_reducible refine Ob.intro ?ha ?_); (case ha => (first | (as_aux_lemma => kernel_rfl) | ((try simp only [List.forall_mem_append, List.forall_mem_map, List.forall_mem_cons, List.forall_mem_nil, and_true, true_and]); (repeat' apply And.intro) <;> first | (intros; rfl) | omega | (simp only [List.length_append, List.length_map, List.length_take, List.length_drop, List.length_cons, List.length_nil, List.length_set]; omega) | (intro _ h; cases h))))) | skip)
            (conv => whnf)
            exact fin
        · iterate 10 ((conv => whnf); first | ((with_reducible refine sl_full ?ha ?_); (case ha => (first | with_reducible exact Nat.le_refl _ | with_reducible rfl | omega | (simp only [List.length_append, List.length_map, List.length_take, List.length_drop, List.length_cons, List.length_nil, List.length_set]; done) | (simp only [List.length_append, List.length_map, List.length_take, List.length_drop, List.length_cons, List.length_nil, List.length_set]; omega)))) | ((with_reducible refine Ob.intro ?ha ?_); (case ha => (first | (as_aux_lemma => kernel_rfl) | ((try simp only [List.forall_mem_append, List.forall_mem_map, List.forall_mem_cons, List.forall_mem_nil, and_true, true_and]); (repeat' apply And.intro) <;> first | (intros; rfl) | omega | (simp only [List.length_append, List.length_map, List.length_take, List.length_drop, List.length_cons, List.length_nil, List.length_set]; omega) | (intro _ h; cases h))))) | skip)
          (conv => whnf)
          exact fin

end Go.Proofs.Ytkpnlmainmlogaa
