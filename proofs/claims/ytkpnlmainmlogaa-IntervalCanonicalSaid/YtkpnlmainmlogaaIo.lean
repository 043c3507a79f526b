/- interval.canonical, but for the sort. -/
import Derived.Test.YtkpnlmainmlogaaIm
import Derived.Test.YtkpnlmainmlogaaIctx5
set_option linter.unusedVariables false
set_option linter.unusedSimpArgs false
set_option maxRecDepth 20000
namespace Go.Proofs.Ytkpnlmainmlogaa
open Go Go.Vm

/-- what slices.SortFunc does, with canonical's closure -/
def Sorts : Prop := ∀ (d : List Rg) (n : Nat), n = d.length → d.length < 1000000 → ∀ K : AV → List Vm.Obj → Prop, (∀ d' : List Rg, d'.Perm d → d'.Pairwise (fun r s => r.lo ≤ s.lo) → K (.tup []) [.arr 2 (d'.map encR)]) →
  ACall Try.prog 46 [.os 0 2 0 n, .fn (.func 47) [] []] [.arr 2 (d.map encR)] K

/-- one range more, laid onto the ranges so far -/
def mergeS (out : List Rg) (r : Rg) : List Rg :=
  match out.getLast? with
  | some p => if r.lo ≤ p.hi + 1 then out.dropLast ++ [mkR p.lo (max p.hi r.hi)] else out ++ [r]
  | none => [r]
theorem mergeS_length (out : List Rg) (r : Rg) : (mergeS out r).length ≤ out.length + 1 := by
  unfold mergeS
  split
  · split <;> simp
  · simp

theorem mergeS_inv {out : List Rg} {r : Rg} (hc : Canon out) (hlo : ∀ p, p ∈ out → p.lo ≤ r.lo) (hr : r.lo ≤ r.hi) : Canon (mergeS out r) ∧ (∀ v, has (mergeS out r) v = (has out v || has [r] v)) ∧ ∀ p, p ∈ mergeS out r → p.lo ≤ r.lo := by
  have b1 := r.l0; have b2 := r.l1; have b3 := r.h0; have b4 := r.h1
  unfold mergeS
  rcases List.eq_nil_or_concat out with hnil | ⟨ini, p, hcat⟩
  · subst hnil
    refine ⟨?_, fun v => by simp [has], fun p hp => by simp at hp; subst hp; exact Int.le_refl _⟩
    have := canon_append_one canon_nil hr (fun s hs => by simp at hs)
    simpa using this
  · rw [List.concat_eq_append] at hcat
    subst hcat
    simp only [List.getLast?_append, List.getLast?_singleton, Option.some_or, List.dropLast_concat]
    have p1 := p.l0; have p2 := p.l1; have p3 := p.h0; have p4 := p.h1
    have hpw := List.pairwise_append.1 hc.2
    have hp1 := hc.1 p (by simp)
    have hp2 := hlo p (by simp)
    have hx : 0 ≤ max p.hi r.hi ∧ max p.hi r.hi ≤ 4294967295 := by omega
    split
    · rename_i he
      have ci : Canon ini := ⟨fun t ht => hc.1 t (by simp [ht]), hpw.1⟩
      refine ⟨canon_append_one ci (by rw [mkR_lo p1 p2 hx.1 hx.2, mkR_hi p1 p2 hx.1 hx.2]; omega) (fun s hs => by rw [mkR_lo p1 p2 hx.1 hx.2]; exact hpw.2.2 s hs p (by simp)), fun v => ?_, fun q hq => ?_⟩
      · rw [has_append, has_append, has_one, has_one, has_one, mkR_lo p1 p2 hx.1 hx.2, mkR_hi p1 p2 hx.1 hx.2, Bool.or_assoc]
        congr 1
        rw [Bool.eq_iff_iff]
        simp only [Bool.or_eq_true, Bool.and_eq_true, decide_eq_true_eq]
        omega
      · rcases List.mem_append.1 hq with hq | hq
        · exact hlo q (by simp [hq])
        · simp at hq; subst hq; rw [mkR_lo p1 p2 hx.1 hx.2]; exact hp2
    · rename_i he
      refine ⟨canon_append_one hc hr (fun s hs => ?_), fun v => has_append _ _ v, fun q hq => ?_⟩
      · rcases List.mem_append.1 hs with hs | hs
        · have := hpw.2.2 s hs p (by simp); omega
        · simp at hs; subst hs; omega
      · rcases List.mem_append.1 hq with hq | hq
        · exact hlo q hq
        · simp at hq; subst hq; exact Int.le_refl _
theorem fold_merge : ∀ (d out : List Rg), Canon out → (∀ p, p ∈ out → ∀ r, r ∈ d → p.lo ≤ r.lo) → d.Pairwise (fun r s => r.lo ≤ s.lo) → (∀ r, r ∈ d → r.lo ≤ r.hi) →
    Canon (d.foldl mergeS out) ∧ (∀ v, has (d.foldl mergeS out) v = (has out v || has d v)) ∧ (d.foldl mergeS out).length ≤ out.length + d.length
  | [], out, hc, _, _, _ => ⟨hc, fun v => by simp [has], by simp⟩
  | r :: d, out, hc, hlo, hp, hok => by
    have ⟨hp1, hp2⟩ := List.pairwise_cons.1 hp
    obtain ⟨h1, h2, h3⟩ := mergeS_inv hc (fun p hpm => hlo p hpm r (by simp)) (hok r (by simp))
    obtain ⟨g1, g2, g3⟩ := fold_merge d (mergeS out r) h1 (fun p hpm s hs => Int.le_trans (h3 p hpm) (hp1 s hs)) hp2 (fun s hs => hok s (by simp [hs]))
    refine ⟨g1, fun v => ?_, ?_⟩
    · rw [List.foldl_cons, g2, h2, Bool.or_assoc, ← has_append]; rfl
    · have := mergeS_length out r
      simp only [List.foldl_cons, List.length_cons]; omega

def okR (r : Rg) : Bool := decide (r.lo ≤ r.hi)
/-- interval.canonical -/
theorem c39 (hs : Sorts) (l : List Rg) (hl : l.length < 100000) {K : AV → List Vm.Obj → Prop} (hK : ∀ c, Canon c → (∀ v, has c v = has l v) → c.length ≤ l.length → K (encRs c) []) : ACall Try.prog 39 [encRs l] [] K := by
  refine of39 rfl rfl ?_
  (conv => whnf)
  refine Lp.intro Nat (fun k => ⟨2, [(0, .arr 2 (((l.take k).filter okR).map encR)), (1, .arr 2 [])], [(3, .os 0 2 0 ((l.take k).filter okR).length), (4, .os 1 2 0 0), (10, encRs l), (11, .v (.int .i64 (l.map encR).length)), (12, .v (.int .i64 k))]⟩) (fun k => k ≤ l.length) (fun k => l.length - k) 0 ?_ ?_ ?_
  · exact Nat.zero_le _
  · exact ⟨[(0, 0), (1, 1)], rfl, ⟨rfl, rfl, rfl, rfl, rfl, trivial⟩, ⟨rfl, rfl, trivial⟩⟩
  · intro k hk
    rcases Nat.lt_or_ge k l.length with hkl | hkl
    · obtain ⟨r, hr⟩ : ∃ r, l[k]? = some r := ⟨_, List.getElem?_eq_getElem hkl⟩
      have b1 := r.l0; have b2 := r.l1; have b3 := r.h0; have b4 := r.h1
      have e : (l.take (k + 1)).filter okR = (l.take k).filter okR ++ (if r.lo ≤ r.hi then [r] else []) := by
        rw [List.take_add_one, hr, Option.toList_some, List.filter_append]
        simp only [okR, List.filter_cons, List.filter_nil, decide_eq_true_eq]
      have hlen : ((l.take k).filter okR).length ≤ l.length := Nat.le_trans (List.length_filter_le _ _) (by rw [List.length_take]; omega)
      iterate 30 (all_goals ((conv => whnf); first | (with_reducible refine in_map hkl ?_) | (with_reducible refine ix_map hr ?_) | ((with_reducible refine sl_full ?ha ?_); (case ha => (first | with_reducible exact Nat.le_refl _ | with_reducible rfl | omega | (simp only [List.length_append, List.length_map, List.length_take, List.length_drop, List.length_cons, List.length_nil, List.length_set]; done) | (simp only [List.length_append, List.length_map, List.length_take, List.length_drop, List.length_cons, List.length_nil, List.length_set]; omega)))) | ((with_reducible refine Ob.intro ?ha ?_); (case ha => (first | (as_aux_lemma => kernel_rfl) | ((try simp only [List.forall_mem_append, List.forall_mem_map, List.forall_mem_cons, List.forall_mem_nil, and_true, true_and]); (repeat' apply And.intro) <;> first | (intros; rfl) | omega | (simp only [List.length_append, List.length_map, List.length_take, List.length_drop, List.length_cons, List.length_nil, List.length_set]; omega) | (intro _ h; cases h))))) | ((with_reducible refine br_lt ?_)) | ((with_reducible refine br_lf ?_)) | ((with_reducible refine br_pos ?ha ?_); (case ha => (first | with_reducible assumption | omega | (simp only [List.length_append, List.length_map, List.length_take, List.length_drop, List.length_cons, List.length_nil, List.length_set]; omega)))) | ((with_reducible refine br_neg ?ha ?_); (case ha => (first | with_reducible assumption | omega | (simp only [List.length_append, List.length_map, List.length_take, List.length_drop, List.length_cons, List.length_nil, List.length_set]; omega)))) | ((with_reducible refine br_t ?ha ?_); (case ha => with_reducible assumption)) | ((with_reducible refine br_f ?ha ?_); (case ha => with_reducible assumption)) | ((with_reducible refine br_dec (fun h => ?_) (fun h => ?_))) | ((with_reducible refine br_not ?_)) | ((with_reducible refine br_b (fun h => ?_) (fun h => ?_))) | ((with_reducible refine wr_i64 rfl ?ha ?hb ?_); (case ha => (first | with_reducible assumption | omega | (simp only [List.length_append, List.length_map, List.length_take, List.length_drop, List.length_cons, List.length_nil, List.length_set]; omega))); (case hb => (first | with_reducible assumption | omega | (simp only [List.length_append, List.length_map, List.length_take, List.length_drop, List.length_cons, List.length_nil, List.length_set]; omega)))) | ((with_reducible refine wr_u64 rfl ?ha ?hb ?_); (case ha => (first | with_reducible assumption | omega | (simp only [List.length_append, List.length_map, List.length_take, List.length_drop, List.length_cons, List.length_nil, List.length_set]; omega))); (case hb => (first | with_reducible assumption | omega | (simp only [List.length_append, List.length_map, List.length_take, List.length_drop, List.length_cons, List.length_nil, List.length_set]; omega)))) | ((with_reducible refine wr_u32 rfl ?ha ?hb ?_); (case ha => (first | with_reducible assumption | omega | (simp only [List.length_append, List.length_map, List.length_take, List.length_drop, List.length_cons, List.length_nil, List.length_set]; omega))); (case hb => (first | with_reducible assumption | omega | (simp only [List.length_append, List.length_map, List.length_take, List.length_drop, List.length_cons, List.length_nil, List.length_set]; omega)))) | ((with_reducible refine And.intro ?_ ?_)) | skip))
      · refine ⟨k + 1, by omega, by omega, ?_⟩
        rw [e, if_pos (by assumption), List.map_append, List.length_append]
        exact ⟨[(0, 4), (1, 1)], rfl, ⟨rfl, rfl, rfl, rfl, rfl, trivial⟩, ⟨rfl, rfl, trivial⟩⟩
      · refine ⟨k + 1, by omega, by omega, ?_⟩
        rw [e, if_neg (by assumption), List.append_nil]
        exact ⟨[(0, 0), (1, 1)], rfl, ⟨rfl, rfl, rfl, rfl, rfl, trivial⟩, ⟨rfl, rfl, trivial⟩⟩
    · rw [List.take_of_length_le hkl]
      have hlen : (l.filter okR).length ≤ l.length := List.length_filter_le _ _
      iterate 6 (all_goals ((conv => whnf); first | (with_reducible refine in_map hkl ?_) | ((with_reducible refine sl_full ?ha ?_); (case ha => (first | with_reducible exact Nat.le_refl _ | with_reducible rfl | omega | (simp only [List.length_append, List.length_map, List.length_take, List.length_drop, List.length_cons, List.length_nil, List.length_set]; done) | (simp only [List.length_append, List.length_map, List.length_take, List.length_drop, List.length_cons, List.length_nil, List.length_set]; omega)))) | ((with_reducible refine Ob.intro ?ha ?_); (case ha => (first | (as_aux_lemma => kernel_rfl) | ((try simp only [List.forall_mem_append, List.forall_mem_map, List.forall_mem_cons, List.forall_mem_nil, and_true, true_and]); (repeat' apply And.intro) <;> first | (intros; rfl) | omega | (simp only [List.length_append, List.length_map, List.length_take, List.length_drop, List.length_cons, List.length_nil, List.length_set]; omega) | (intro _ h; cases h))))) | ((with_reducible refine br_lt ?_)) | ((with_reducible refine br_lf ?_)) | ((with_reducible refine br_pos ?ha ?_); (case ha => (first | with_reducible assumption | omega | (simp only [List.length_append, List.length_map, List.length_take, List.length_drop, List.length_cons, List.length_nil, List.length_set]; omega)))) | ((with_reducible refine br_neg ?ha ?_); (case ha => (first | with_reducible assumption | omega | (simp only [List.length_append, List.length_map, List.length_take, List.length_drop, List.length_cons, List.length_nil, List.length_set]; omega)))) | ((with_reducible refine br_t ?ha ?_); (case ha => with_reducible assumption)) | ((with_reducible refine br_f ?ha ?_); (case ha => with_reducible assumption)) | ((with_reducible refine br_dec (fun h => ?_) (fun h => ?_))) | ((with_reducible refine br_not ?_)) | ((with_reducible refine br_b (fun h => ?_) (fun h => ?_))) | ((with_reducible refine wr_i64 rfl ?ha ?hb ?_); (case ha => (first | with_reducible assumption | omega | (simp only [List.length_append, List.length_map, List.length_take, List.length_drop, List.length_cons, List.length_nil, List.length_set]; omega))); (case hb => (first | with_reducible assumption | omega | (simp only [List.length_append, List.length_map, List.length_take, List.length_drop, List.length_cons, List.length_nil, List.length_set]; omega)))) | ((with_reducible refine wr_u64 rfl ?ha ?hb ?_); (case ha => (first | with_reducible assumption | omega | (simp only [List.length_append, List.length_map, List.length_take, List.length_drop, List.length_cons, List.length_nil, List.length_set]; omega))); (case hb => (first | with_reducible assumption | omega | (simp only [List.length_append, List.length_map, List.length_take, List.length_drop, List.length_cons, List.length_nil, List.length_set]; omega)))) | ((with_reducible refine wr_u32 rfl ?ha ?hb ?_); (case ha => (first | with_reducible assumption | omega | (simp only [List.length_append, List.length_map, List.length_take, List.length_drop, List.length_cons, List.length_nil, List.length_set]; omega))); (case hb => (first | with_reducible assumption | omega | (simp only [List.length_append, List.length_map, List.length_take, List.length_drop, List.length_cons, List.length_nil, List.length_set]; omega)))) | ((with_reducible refine And.intro ?_ ?_)) | skip))
      refine hs (l.filter okR) _ rfl (by omega) _ fun d hperm hsort => ?_
      have hn : (l.filter okR).length = d.length := hperm.length_eq.symm
      rw [hn]
      (conv => whnf)
      refine Lp.intro Nat (fun k => ⟨2, [(0, .arr 2 (d.map encR)), (1, .arr 2 (((d.take k).foldl mergeS []).map encR))], [(4, .os 1 2 0 ((d.take k).foldl mergeS []).length), (28, .os 0 2 0 d.length), (29, .v (.int .i64 d.length)), (30, .v (.int .i64 k))]⟩) (fun k => k ≤ d.length ∧ ((d.take k).foldl mergeS []).length ≤ k) (fun k => d.length - k) 0 ?_ ?_ ?_
      · exact ⟨Nat.zero_le _, by simp⟩
      · exact ⟨[(0, 0), (1, 1)], rfl, ⟨rfl, rfl, rfl, rfl, trivial⟩, ⟨rfl, rfl, trivial⟩⟩
      · intro k ⟨hk, hle⟩
        rcases Nat.lt_or_ge k d.length with hkl | hkl
        · obtain ⟨r, hr⟩ : ∃ r, d[k]? = some r := ⟨_, List.getElem?_eq_getElem hkl⟩
          have hr0 : d[0 + k]? = some r := by rw [Nat.zero_add]; exact hr
          have b1 := r.l0; have b2 := r.l1; have b3 := r.h0; have b4 := r.h1
          have hs2 := foldl_succ (f := mergeS) (b := []) hr
          generalize hout : (d.take k).foldl mergeS [] = out at hs2 hle ⊢
          have hj : (k : Int) < (d.length : Int) := by omega
          rcases List.eq_nil_or_concat out with hnil | ⟨ini, p, hcat⟩
          · subst hnil
            iterate 30 (all_goals ((conv => whnf); first | (with_reducible refine In.intro k rfl (by omega) ?_) | (with_reducible refine ix_map hr ?_) | (with_reducible refine ix_map hr0 ?_) | ((with_reducible refine sl_full ?ha ?_); (case ha => (first | with_reducible exact Nat.le_refl _ | with_reducible rfl | omega | (simp only [List.length_append, List.length_map, List.length_take, List.length_drop, List.length_cons, List.length_nil, List.length_set]; done) | (simp only [List.length_append, List.length_map, List.length_take, List.length_drop, List.length_cons, List.length_nil, List.length_set]; omega)))) | ((with_reducible refine Ob.intro ?ha ?_); (case ha => (first | (as_aux_lemma => kernel_rfl) | ((try simp only [List.forall_mem_append, List.forall_mem_map, List.forall_mem_cons, List.forall_mem_nil, and_true, true_and]); (repeat' apply And.intro) <;> first | (intros; rfl) | omega | (simp only [List.length_append, List.length_map, List.length_take, List.length_drop, List.length_cons, List.length_nil, List.length_set]; omega) | (intro _ h; cases h))))) | ((with_reducible refine br_lt ?_)) | ((with_reducible refine br_lf ?_)) | ((with_reducible refine br_pos ?ha ?_); (case ha => (first | with_reducible assumption | omega | (simp only [List.length_append, List.length_map, List.length_take, List.length_drop, List.length_cons, List.length_nil, List.length_set]; omega)))) | ((with_reducible refine br_neg ?ha ?_); (case ha => (first | with_reducible assumption | omega | (simp only [List.length_append, List.length_map, List.length_take, List.length_drop, List.length_cons, List.length_nil, List.length_set]; omega)))) | ((with_reducible refine br_t ?ha ?_); (case ha => with_reducible assumption)) | ((with_reducible refine br_f ?ha ?_); (case ha => with_reducible assumption)) | ((with_reducible refine br_dec (fun h => ?_) (fun h => ?_))) | ((with_reducible refine br_not ?_)) | ((with_reducible refine br_b (fun h => ?_) (fun h => ?_))) | ((with_reducible refine wr_i64 rfl ?ha ?hb ?_); (case ha => (first | with_reducible assumption | omega | (simp only [List.length_append, List.length_map, List.length_take, List.length_drop, List.length_cons, List.length_nil, List.length_set]; omega))); (case hb => (first | with_reducible assumption | omega | (simp only [List.length_append, List.length_map, List.length_take, List.length_drop, List.length_cons, List.length_nil, List.length_set]; omega)))) | ((with_reducible refine wr_u64 rfl ?ha ?hb ?_); (case ha => (first | with_reducible assumption | omega | (simp only [List.length_append, List.length_map, List.length_take, List.length_drop, List.length_cons, List.length_nil, List.length_set]; omega))); (case hb => (first | with_reducible assumption | omega | (simp only [List.length_append, List.length_map, List.length_take, List.length_drop, List.length_cons, List.length_nil, List.length_set]; omega)))) | ((with_reducible refine wr_u32 rfl ?ha ?hb ?_); (case ha => (first | with_reducible assumption | omega | (simp only [List.length_append, List.length_map, List.length_take, List.length_drop, List.length_cons, List.length_nil, List.length_set]; omega))); (case hb => (first | with_reducible assumption | omega | (simp only [List.length_append, List.length_map, List.length_take, List.length_drop, List.length_cons, List.length_nil, List.length_set]; omega)))) | ((with_reducible refine And.intro ?_ ?_)) | skip))
            refine ⟨k + 1, ⟨by omega, by rw [hs2]; simp [mergeS]⟩, by omega, ?_⟩
            rw [hs2, show mergeS [] r = [r] from rfl]
            exact ⟨[(0, 0), (1, 4)], rfl, ⟨rfl, rfl, rfl, rfl, trivial⟩, ⟨rfl, rfl, trivial⟩⟩
          · rw [List.concat_eq_append] at hcat
            subst hcat
            have p1 := p.l0; have p2 := p.l1; have p3 := p.h0; have p4 := p.h1
            have hp : (ini ++ [p])[ini.length]? = some p := by simp
            have hp0 : (ini ++ [p])[0 + ini.length]? = some p := by simp
            have hi : ((((ini ++ [p]).length : Nat) : Int) - 1 = ini.length) ∧ ini.length < (ini ++ [p]).length := by simp
            iterate 40 (all_goals ((conv => whnf); first | (with_reducible refine In.intro k rfl (by omega) ?_) | (with_reducible refine ix_map hr ?_) | (with_reducible refine ix_map hr0 ?_) | (with_reducible refine In.intro ini.length hi.1 hi.2 ?_) | (with_reducible refine ix_map hp ?_) | (with_reducible refine ix_map hp0 ?_) | ((with_reducible refine sl_full ?ha ?_); (case ha => (first | with_reducible exact Nat.le_refl _ | with_reducible rfl | omega | (simp only [List.length_append, List.length_map, List.length_take, List.length_drop, List.length_cons, List.length_nil, List.length_set]; done) | (simp only [List.length_append, List.length_map, List.length_take, List.length_drop, List.length_cons, List.length_nil, List.length_set]; omega)))) | ((with_reducible refine Ob.intro ?ha ?_); (case ha => (first | (as_aux_lemma => kernel_rfl) | ((try simp only [List.forall_mem_append, List.forall_mem_map, List.forall_mem_cons, List.forall_mem_nil, and_true, true_and]); (repeat' apply And.intro) <;> first | (intros; rfl) | omega | (simp only [List.length_append, List.length_map, List.length_take, List.length_drop, List.length_cons, List.length_nil, List.length_set]; omega) | (intro _ h; cases h))))) | ((with_reducible refine br_lt ?_)) | ((with_reducible refine br_lf ?_)) | ((with_reducible refine br_pos ?ha ?_); (case ha => (first | with_reducible assumption | omega | (simp only [List.length_append, List.length_map, List.length_take, List.length_drop, List.length_cons, List.length_nil, List.length_set]; omega)))) | ((with_reducible refine br_neg ?ha ?_); (case ha => (first | with_reducible assumption | omega | (simp only [List.length_append, List.length_map, List.length_take, List.length_drop, List.length_cons, List.length_nil, List.length_set]; omega)))) | ((with_reducible refine br_t ?ha ?_); (case ha => with_reducible assumption)) | ((with_reducible refine br_f ?ha ?_); (case ha => with_reducible assumption)) | ((with_reducible refine br_dec (fun h => ?_) (fun h => ?_))) | ((with_reducible refine br_not ?_)) | ((with_reducible refine br_b (fun h => ?_) (fun h => ?_))) | ((with_reducible refine wr_i64 rfl ?ha ?hb ?_); (case ha => (first | with_reducible assumption | omega | (simp only [List.length_append, List.length_map, List.length_take, List.length_drop, List.length_cons, List.length_nil, List.length_set]; omega))); (case hb => (first | with_reducible assumption | omega | (simp only [List.length_append, List.length_map, List.length_take, List.length_drop, List.length_cons, List.length_nil, List.length_set]; omega)))) | ((with_reducible refine wr_u64 rfl ?ha ?hb ?_); (case ha => (first | with_reducible assumption | omega | (simp only [List.length_append, List.length_map, List.length_take, List.length_drop, List.length_cons, List.length_nil, List.length_set]; omega))); (case hb => (first | with_reducible assumption | omega | (simp only [List.length_append, List.length_map, List.length_take, List.length_drop, List.length_cons, List.length_nil, List.length_set]; omega)))) | ((with_reducible refine wr_u32 rfl ?ha ?hb ?_); (case ha => (first | with_reducible assumption | omega | (simp only [List.length_append, List.length_map, List.length_take, List.length_drop, List.length_cons, List.length_nil, List.length_set]; omega))); (case hb => (first | with_reducible assumption | omega | (simp only [List.length_append, List.length_map, List.length_take, List.length_drop, List.length_cons, List.length_nil, List.length_set]; omega)))) | ((with_reducible refine And.intro ?_ ?_)) | skip))
            · have e : mergeS (ini ++ [p]) r = ini ++ [mkR p.lo (max p.hi r.hi)] := by
                simp only [mergeS, List.getLast?_append, List.getLast?_singleton, Option.some_or, List.dropLast_concat]
                rw [if_pos (by assumption)]
              refine ⟨k + 1, ⟨by omega, by rw [hs2]; have := mergeS_length (ini ++ [p]) r; omega⟩, by omega, ?_⟩
              rw [hs2, e, List.map_append, List.map_cons, List.map_nil, enc_mkR (by omega) (by omega) (by omega) (by omega)]
              have e2 : (ini.map encR ++ [.agg [.v (.int .u32 p.lo), .v (.int .u32 (max p.hi r.hi))]]) = ((ini ++ [p]).map encR).set (0 + ini.length) (.agg [.v (.int .u32 p.lo), .v (.int .u32 (max p.hi r.hi))]) := by
                rw [List.map_append, List.set_append_right _ _ (by simp)]
                simp
              rw [e2, show (ini ++ [mkR p.lo (max p.hi r.hi)]).length = (ini ++ [p]).length by simp]
              exact ⟨[(0, 0), (1, 1)], rfl, ⟨rfl, rfl, rfl, rfl, trivial⟩, ⟨rfl, rfl, trivial⟩⟩
            · have e : mergeS (ini ++ [p]) r = ini ++ [p] ++ [r] := by
                simp only [mergeS, List.getLast?_append, List.getLast?_singleton, Option.some_or, List.dropLast_concat]
                rw [if_neg (by assumption)]
              refine ⟨k + 1, ⟨by omega, by rw [hs2]; have := mergeS_length (ini ++ [p]) r; omega⟩, by omega, ?_⟩
              rw [hs2, e, List.map_append (l₁ := ini ++ [p]), show (ini ++ [p] ++ [r]).length = (ini ++ [p]).length + 1 from by simp]
              exact ⟨[(0, 0), (1, 4)], rfl, ⟨rfl, rfl, rfl, rfl, trivial⟩, ⟨rfl, rfl, trivial⟩⟩
        · rw [List.take_of_length_le hkl] at hle ⊢
          iterate 8 (all_goals ((conv => whnf); first | ((with_reducible refine sl_full ?ha ?_); (case ha => (first | with_reducible exact Nat.le_refl _ | with_reducible rfl | omega | (simp only [List.length_append, List.length_map, List.length_take, List.length_drop, List.length_cons, List.length_nil, List.length_set]; done) | (simp only [List.length_append, List.length_map, List.length_take, List.length_drop, List.length_cons, List.length_nil, List.length_set]; omega)))) | ((with_reducible refine Ob.intro ?ha ?_); (case ha => (first | (as_aux_lemma => kernel_rfl) | ((try simp only [List.forall_mem_append, List.forall_mem_map, List.forall_mem_cons, List.forall_mem_nil, and_true, true_and]); (repeat' apply And.intro) <;> first | (intros; rfl) | omega | (simp only [List.length_append, List.length_map, List.length_take, List.length_drop, List.length_cons, List.length_nil, List.length_set]; omega) | (intro _ h; cases h))))) | ((with_reducible refine br_lt ?_)) | ((with_reducible refine br_lf ?_)) | ((with_reducible refine br_pos ?ha ?_); (case ha => (first | with_reducible assumption | omega | (simp only [List.length_append, List.length_map, List.length_take, List.length_drop, List.length_cons, List.length_nil, List.length_set]; omega)))) | ((with_reducible refine br_neg ?ha ?_); (case ha => (first | with_reducible assumption | omega | (simp only [List.length_append, List.length_map, List.length_take, List.length_drop, List.length_cons, List.length_nil, List.length_set]; omega)))) | ((with_reducible refine br_t ?ha ?_); (case ha => with_reducible assumption)) | ((with_reducible refine br_f ?ha ?_); (case ha => with_reducible assumption)) | ((with_reducible refine br_dec (fun h => ?_) (fun h => ?_))) | ((with_reducible refine br_not ?_)) | ((with_reducible refine br_b (fun h => ?_) (fun h => ?_))) | ((with_reducible refine wr_i64 rfl ?ha ?hb ?_); (case ha => (first | with_reducible assumption | omega | (simp only [List.length_append, List.length_map, List.length_take, List.length_drop, List.length_cons, List.length_nil, List.length_set]; omega))); (case hb => (first | with_reducible assumption | omega | (simp only [List.length_append, List.length_map, List.length_take, List.length_drop, List.length_cons, List.length_nil, List.length_set]; omega)))) | ((with_reducible refine wr_u64 rfl ?ha ?hb ?_); (case ha => (first | with_reducible assumption | omega | (simp only [List.length_append, List.length_map, List.length_take, List.length_drop, List.length_cons, List.length_nil, List.length_set]; omega))); (case hb => (first | with_reducible assumption | omega | (simp only [List.length_append, List.length_map, List.length_take, List.length_drop, List.length_cons, List.length_nil, List.length_set]; omega)))) | ((with_reducible refine wr_u32 rfl ?ha ?hb ?_); (case ha => (first | with_reducible assumption | omega | (simp only [List.length_append, List.length_map, List.length_take, List.length_drop, List.length_cons, List.length_nil, List.length_set]; omega))); (case hb => (first | with_reducible assumption | omega | (simp only [List.length_append, List.length_map, List.length_take, List.length_drop, List.length_cons, List.length_nil, List.length_set]; omega)))) | ((with_reducible refine And.intro ?_ ?_)) | skip))
          have hok : ∀ r, r ∈ d → r.lo ≤ r.hi := fun r hr => by
            have := (List.mem_filter.1 (hperm.subset hr)).2
            simpa [okR] using this
          obtain ⟨g1, g2, g3⟩ := fold_merge d [] canon_nil (fun p hp => by simp at hp) hsort hok
          refine hK _ g1 (fun v => ?_) (by simp only [List.length_nil] at g3; omega)
          rw [g2, has_nil, Bool.false_or, Bool.eq_iff_iff, has_iff, has_iff]
          constructor
          · rintro ⟨r, hr, h1, h2⟩
            exact ⟨r, (List.mem_filter.1 (hperm.subset hr)).1, h1, h2⟩
          · rintro ⟨r, hr, h1, h2⟩
            refine ⟨r, hperm.symm.subset (List.mem_filter.2 ⟨hr, ?_⟩), h1, h2⟩
            simp only [okR, decide_eq_true_eq]; omega

end Go.Proofs.Ytkpnlmainmlogaa
