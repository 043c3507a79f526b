/- interval: Union, Complement, Intersect, Subtract, Subset. -/
import Derived.Test.YtkpnlmainmlogaaIs
import Derived.Test.YtkpnlmainmlogaaIp
import Derived.Test.YtkpnlmainmlogaaIctx8
set_option linter.unusedVariables false
set_option linter.unusedSimpArgs false
set_option maxRecDepth 20000
namespace Go.Proofs.Ytkpnlmainmlogaa
open Go Go.Vm

/-- interval.canonical -/
theorem k39 (l : List Rg) (hl : l.length < 100000) {K : AV → List Vm.Obj → Prop} (hK : ∀ c, Canon c → (∀ v, has c v = has l v) → c.length ≤ l.length → K (encRs c) []) : ACall Try.prog 39 [encRs l] [] K := c39 sorts l hl hK

/-- interval.Union -/
theorem c18 (a b : List Rg) (ha : a.length < 900) (hb : b.length < 900) {K : AV → List Vm.Obj → Prop} (hK : ∀ c, Canon c → (∀ v, has c v = (has a v || has b v)) → c.length ≤ a.length + b.length → K (encRs c) []) : ACall Try.prog 18 [encRs a, encRs b] [] K := by
  refine of18 rfl rfl ?_
  iterate 4 (all_goals ((conv => whnf); first | ((with_reducible refine sl_full ?ha ?_); (case ha => (first | with_reducible exact Nat.le_refl _ | with_reducible rfl | omega | (simp only [List.length_append, List.length_map, List.length_take, List.length_drop, List.length_cons, List.length_nil, List.length_set]; done) | (simp only [List.length_append, List.length_map, List.length_take, List.length_drop, List.length_cons, List.length_nil, List.length_set]; omega)))) | ((with_reducible refine Ob.intro ?ha ?_); (case ha => (first | (as_aux_lemma => kernel_rfl) | ((try simp only [List.forall_mem_append, List.forall_mem_map, List.forall_mem_cons, List.forall_mem_nil, and_true, true_and]); (repeat' apply And.intro) <;> first | (intros; rfl) | omega | (simp only [List.length_append, List.length_map, List.length_take, List.length_drop, List.length_cons, List.length_nil, List.length_set]; omega) | (intro _ h; cases h))))) | ((with_reducible refine br_lt ?_)) | ((with_reducible refine br_lf ?_)) | ((with_reducible refine br_pos ?ha ?_); (case ha => (first | with_reducible assumption | omega | (simp only [List.length_append, List.length_map, List.length_take, List.length_drop, List.length_cons, List.length_nil, List.length_set]; omega)))) | ((with_reducible refine br_neg ?ha ?_); (case ha => (first | with_reducible assumption | omega | (simp only [List.length_append, List.length_map, List.length_take, List.length_drop, List.length_cons, List.length_nil, List.length_set]; omega)))) | ((with_reducible refine br_t ?ha ?_); (case ha => with_reducible assumption)) | ((with_reducible refine br_f ?ha ?_); (case ha => with_reducible assumption)) | ((with_reducible refine br_dec (fun h => ?_) (fun h => ?_))) | ((with_reducible refine br_not ?_)) | ((with_reducible refine br_b (fun h => ?_) (fun h => ?_))) | ((with_reducible refine wr_i64 rfl ?ha ?hb ?_); (case ha => (first | with_reducible assumption | omega | (simp only [List.length_append, List.length_map, List.length_take, List.length_drop, List.length_cons, List.length_nil, List.length_set]; omega))); (case hb => (first | with_reducible assumption | omega | (simp only [List.length_append, List.length_map, List.length_take, List.length_drop, List.length_cons, List.length_nil, List.length_set]; omega)))) | ((with_reducible refine wr_u64 rfl ?ha ?hb ?_); (case ha => (first | with_reducible assumption | omega | (simp only [List.length_append, List.length_map, List.length_take, List.length_drop, List.length_cons, List.length_nil, List.length_set]; omega))); (case hb => (first | with_reducible assumption | omega | (simp only [List.length_append, List.length_map, List.length_take, List.length_drop, List.length_cons, List.length_nil, List.length_set]; omega)))) | ((with_reducible refine wr_u32 rfl ?ha ?hb ?_); (case ha => (first | with_reducible assumption | omega | (simp only [List.length_append, List.length_map, List.length_take, List.length_drop, List.length_cons, List.length_nil, List.length_set]; omega))); (case hb => (first | with_reducible assumption | omega | (simp only [List.length_append, List.length_map, List.length_take, List.length_drop, List.length_cons, List.length_nil, List.length_set]; omega)))) | ((with_reducible refine And.intro ?_ ?_)) | skip))
  refine c40 [a, b] (by simp) (fun l hl => by
    simp only [List.mem_cons, List.not_mem_nil, or_false] at hl
    rcases hl with rfl | rfl <;> omega) ?_
  (conv => whnf)
  refine k39 [a, b].flatten (by simp; omega) fun c h1 h2 h3 => ?_
  (conv => whnf)
  refine hK c h1 (fun v => ?_) (by simpa using h3)
  rw [h2]
  simp [has]
theorem c18n (a : List Rg) (ha : a.length < 900) {K : AV → List Vm.Obj → Prop} (hK : ∀ c, Canon c → (∀ v, has c v = has a v) → c.length ≤ a.length → K (encRs c) []) : ACall Try.prog 18 [encRs a, .nils] [] K :=
  ACall.args (ys := [encRs a, encRs []]) ⟨Weak.refl, Weak.nils, trivial⟩ (c18 a [] ha (by decide) fun c h1 h2 h3 => hK c h1 (fun v => by rw [h2, has_nil, Bool.or_false]) (by simpa using h3))

structure CInv (c : List Rg) (top : Int) (k : Nat) (out : List Rg) (nx : Int) : Prop where
  canon : Canon out
  n0 : 0 ≤ nx
  n1 : nx ≤ 4294967296
  ends : ∀ s, s ∈ out → s.hi + 1 < nx ∧ s.hi < top
  mem : ∀ v, has out v = (decide (0 ≤ v) && (decide (v < nx) && !has (c.take k) v))
  later : ∀ (i : Nat) r, k ≤ i → c[i]? = some r → nx ≤ r.lo
  lows : ∀ r, r ∈ c.take k → r.hi < nx
  len : out.length ≤ k
theorem cinv_zero (c : List Rg) (top : Int) : CInv c top 0 [] 0 where
  canon := canon_nil
  n0 := Int.le_refl _
  n1 := by omega
  ends := fun s hs => by simp at hs
  mem := fun v => by
    rw [has_nil, eq_comm, Bool.and_eq_false_iff, Bool.and_eq_false_iff]
    rcases Int.lt_or_le v 0 with h | h
    · exact .inl (decide_eq_false (by omega))
    · exact .inr (.inl (decide_eq_false (by omega)))
  later := fun i r _ hr => r.l0
  lows := fun r hr => by simp at hr
  len := Nat.le_refl _
theorem cinv_succ {c : List Rg} {top : Int} {k : Nat} {out : List Rg} {nx : Int} {r : Rg} (hc : Canon c) (h : CInv c top k out nx) (hr : c[k]? = some r) (ht : r.lo ≤ top) :
    CInv c top (k + 1) (if nx < r.lo then out ++ [mkR nx (r.lo - 1)] else out) (r.hi + 1) := by
  have b1 := r.l0; have b2 := r.l1; have b3 := r.h0; have b4 := r.h1
  have hle := hc.1 r (List.mem_of_getElem? hr)
  have hnx := h.later k r (Nat.le_refl _) hr
  have n0 := h.n0
  have hlater : ∀ (i : Nat) s, k + 1 ≤ i → c[i]? = some s → r.hi + 1 ≤ s.lo := fun i s hi hs => by
    have := List.pairwise_iff_getElem.1 hc.2 k i (List.getElem?_eq_some_iff.1 hr).1 (List.getElem?_eq_some_iff.1 hs).1 (by omega)
    rw [(List.getElem?_eq_some_iff.1 hr).2, (List.getElem?_eq_some_iff.1 hs).2] at this
    omega
  have htake : c.take (k + 1) = c.take k ++ [r] := by rw [List.take_add_one, hr]; rfl
  have hhas : ∀ v, has (c.take (k + 1)) v = (has (c.take k) v || (decide (r.lo ≤ v) && decide (v ≤ r.hi))) := fun v => has_succ hr
  have hlows : ∀ s, s ∈ c.take (k + 1) → s.hi < r.hi + 1 := fun s hs => by
    rw [htake] at hs
    rcases List.mem_append.1 hs with hs | hs
    · have := h.lows s hs; omega
    · simp at hs; subst hs; omega
  have hold : ∀ v, nx ≤ v → has (c.take k) v = false := fun v hv => by
    rw [Bool.eq_false_iff, ne_eq, has_iff]
    rintro ⟨s, hs, h1, h2⟩
    have := h.lows s hs; omega
  have memAt : ∀ v, (decide (0 ≤ v) && (decide (v < r.hi + 1) && !has (c.take (k + 1)) v)) = (has out v || (decide (nx ≤ v) && decide (v ≤ r.lo - 1))) := fun v => by
    rw [h.mem, hhas]
    rcases Int.lt_or_le v nx with h1 | h1
    · have e1 : decide (v < nx) = true := decide_eq_true h1
      have e2 : decide (v < r.hi + 1) = true := decide_eq_true (by omega)
      have e3 : decide (r.lo ≤ v) = false := decide_eq_false (by omega)
      have e4 : decide (nx ≤ v) = false := decide_eq_false (by omega)
      simp [e1, e2, e3, e4]
    · have e1 : decide (v < nx) = false := decide_eq_false (by omega)
      have e4 : decide (nx ≤ v) = true := decide_eq_true h1
      have e5 : decide (0 ≤ v) = true := decide_eq_true (by omega)
      rw [hold v h1, e1, e4, e5]
      rw [Bool.eq_iff_iff]
      simp
      omega
  rcases Int.lt_or_le nx r.lo with hlt | hge
  · rw [if_pos hlt]
    have q0 : 0 ≤ r.lo - 1 ∧ r.lo - 1 ≤ 4294967295 ∧ nx ≤ 4294967295 := by omega
    have e1 := mkR_lo n0 q0.2.2 q0.1 q0.2.1
    have e2 := mkR_hi n0 q0.2.2 q0.1 q0.2.1
    refine ⟨canon_append_one h.canon (by rw [e1, e2]; omega) (fun s hs => by rw [e1]; exact (h.ends s hs).1), by omega, by omega, fun s hs => ?_, fun v => ?_, hlater, hlows, by have := h.len; simp; omega⟩
    · rcases List.mem_append.1 hs with hs | hs
      · have := h.ends s hs; omega
      · simp at hs; subst hs; rw [e2]; omega
    · rw [memAt, has_append, has_one, e1, e2]
  · rw [if_neg (by omega)]
    refine ⟨h.canon, by omega, by omega, fun s hs => by have := h.ends s hs; omega, fun v => ?_, hlater, hlows, by have := h.len; omega⟩
    rw [memAt]
    have : (decide (nx ≤ v) && decide (v ≤ r.lo - 1)) = false := by
      rw [Bool.and_eq_false_iff]
      rcases Int.lt_or_le v nx with h1 | h1
      · exact .inl (decide_eq_false (by omega))
      · exact .inr (decide_eq_false (by omega))
    rw [this, Bool.or_false]
theorem cinv_end {c : List Rg} {top : Int} {k : Nat} {out : List Rg} {nx : Int} (h : CInv c top k out nx) (ht0 : 0 ≤ top) (ht : top ≤ 4294967295) (hrest : ∀ (i : Nat) r, k ≤ i → c[i]? = some r → top < r.lo) :
    Canon (if nx ≤ top then out ++ [mkR nx top] else out) ∧ (∀ v, has (if nx ≤ top then out ++ [mkR nx top] else out) v = (decide (0 ≤ v) && (decide (v ≤ top) && !has c v))) ∧ (if nx ≤ top then out ++ [mkR nx top] else out).length ≤ k + 1 := by
  have n0 := h.n0
  have hall : ∀ v, v ≤ top → has c v = has (c.take k) v := fun v hv => by
    rw [Bool.eq_iff_iff, has_iff, has_iff]
    constructor
    · rintro ⟨r, hr, h1, h2⟩
      obtain ⟨i, hi⟩ := List.getElem?_of_mem hr
      rcases Nat.lt_or_ge i k with hik | hik
      · exact ⟨r, List.mem_of_getElem? (by rw [List.getElem?_take_of_lt hik]; exact hi), h1, h2⟩
      · have := hrest i r hik hi; omega
    · rintro ⟨r, hr, h1, h2⟩
      exact ⟨r, List.mem_of_mem_take hr, h1, h2⟩
  have hold : ∀ v, nx ≤ v → has (c.take k) v = false := fun v hv => by
    rw [Bool.eq_false_iff, ne_eq, has_iff]
    rintro ⟨s, hs, h1, h2⟩
    have := h.lows s hs; omega
  have hbig : ∀ v, top < v → has out v = false := fun v hv => by
    rw [Bool.eq_false_iff, ne_eq, has_iff]
    rintro ⟨s, hs, h1, h2⟩
    have := (h.ends s hs).2; omega
  rcases Int.lt_or_le top nx with hlt | hle
  · rw [if_neg (by omega)]
    refine ⟨h.canon, fun v => ?_, Nat.le_succ_of_le h.len⟩
    rcases Int.lt_or_le top v with h1 | h1
    · rw [hbig v h1, show decide (v ≤ top) = false from decide_eq_false (by omega)]; simp
    · rw [h.mem, hall v h1, show decide (v ≤ top) = true from decide_eq_true h1, show decide (v < nx) = true from decide_eq_true (by omega)]
  · rw [if_pos hle]
    have e1 := mkR_lo n0 (by omega : nx ≤ 4294967295) ht0 ht
    have e2 := mkR_hi n0 (by omega : nx ≤ 4294967295) ht0 ht
    refine ⟨canon_append_one h.canon (by rw [e1, e2]; exact hle) (fun s hs => by rw [e1]; exact (h.ends s hs).1), fun v => ?_, by have := h.len; simp; omega⟩
    rw [has_append, has_one, e1, e2]
    rcases Int.lt_or_le top v with h1 | h1
    · rw [hbig v h1, show decide (v ≤ top) = false from decide_eq_false (by omega)]; simp
    · rw [h.mem, hall v h1, show decide (v ≤ top) = true from decide_eq_true h1]
      rcases Int.lt_or_le v nx with h2 | h2
      · rw [show decide (v < nx) = true from decide_eq_true h2, show decide (nx ≤ v) = false from decide_eq_false (by omega)]; simp
      · rw [show decide (v < nx) = false from decide_eq_false (by omega), show decide (nx ≤ v) = true from decide_eq_true h2, hold v h2, show decide (0 ≤ v) = true from decide_eq_true (by omega)]; simp

/-- interval.Complement -/
theorem c23 (l : List Rg) (top : Int) (ht0 : 0 ≤ top) (ht : top ≤ 4294967295) (hl : l.length < 10000) {K : AV → List Vm.Obj → Prop}
    (hK : ∀ out, Canon out → (∀ v, has out v = (decide (0 ≤ v) && (decide (v ≤ top) && !has l v))) → out.length ≤ l.length + 1 → K (encRs out) []) : ACall Try.prog 23 [encRs l, .v (.int .u32 top)] [] K := by
  refine of23 rfl rfl ?_
  (conv => whnf)
  refine k39 l (by omega) fun c g1 g2 g3 => ?_
  (conv => whnf)
  refine Lp.intro (Nat × List Rg × Int) (fun g => ⟨1, [(0, .arr 2 (g.2.1.map encR))], [(1, .v (.int .u32 top)), (5, .os 0 2 0 g.2.1.length), (6, .v (.int .u64 g.2.2)), (10, encRs c), (11, .v (.int .i64 (c.map encR).length)), (12, .v (.int .i64 g.1))]⟩)
    (fun g => g.1 ≤ c.length ∧ CInv c top g.1 g.2.1 g.2.2) (fun g => c.length - g.1) (0, [], 0) ?_ ?_ ?_
  · exact ⟨Nat.zero_le _, cinv_zero c top⟩
  · exact ⟨[(0, 0)], rfl, ⟨rfl, rfl, rfl, rfl, rfl, rfl, trivial⟩, ⟨rfl, trivial⟩⟩
  · rintro ⟨k, out, nx⟩ ⟨hk, hinv⟩
    simp only at hk hinv ⊢
    have n0 := hinv.n0; have n1 := hinv.n1
    have hlen := hinv.len
    have fin : (∀ (i : Nat) r, k ≤ i → c[i]? = some r → top < r.lo) → K (encRs (if nx ≤ top then out ++ [mkR nx top] else out)) [] := fun hrest => by
      obtain ⟨e1, e2, e3⟩ := cinv_end hinv ht0 ht hrest
      exact hK _ e1 (fun v => by rw [e2, g2]) (by omega)
    have last : (∀ (i : Nat) r, k ≤ i → c[i]? = some r → top < r.lo) → nx ≤ top → K (.lst (out.map encR ++ [.agg [.v (.int .u32 nx), .v (.int .u32 top)]])) [] := fun hrest hle => by
      have := fin hrest
      rw [if_pos hle] at this
      unfold encRs at this
      rw [List.map_append, List.map_cons, List.map_nil, enc_mkR n0 (by omega) ht0 ht] at this
      exact this
    have last' : (∀ (i : Nat) r, k ≤ i → c[i]? = some r → top < r.lo) → ¬ nx ≤ top → K (.lst (out.map encR)) [] := fun hrest hle => by
      have := fin hrest
      rw [if_neg hle] at this
      exact this
    rcases Nat.lt_or_ge k c.length with hkl | hkl
    · obtain ⟨r, hr⟩ : ∃ r, c[k]? = some r := ⟨_, List.getElem?_eq_getElem hkl⟩
      have b1 := r.l0; have b2 := r.l1; have b3 := r.h0; have b4 := r.h1
      have hle := g1.1 r (List.mem_of_getElem? hr)
      have hrest : top < r.lo → ∀ (i : Nat) s, k ≤ i → c[i]? = some s → top < s.lo := fun h i s hi hs => by
        rcases Nat.eq_or_lt_of_le hi with rfl | hlt
        · rw [hr] at hs; cases hs; exact h
        · have := List.pairwise_iff_getElem.1 g1.2 k i hkl (List.getElem?_eq_some_iff.1 hs).1 hlt
          rw [(List.getElem?_eq_some_iff.1 hr).2, (List.getElem?_eq_some_iff.1 hs).2] at this
          omega
      iterate 60 (all_goals ((conv => whnf); first | (with_reducible refine in_map hkl ?_) | (with_reducible refine ix_map hr ?_) | ((with_reducible refine sl_full ?ha ?_); (case ha => (first | with_reducible exact Nat.le_refl _ | with_reducible rfl | omega | (simp only [List.length_append, List.length_map, List.length_take, List.length_drop, List.length_cons, List.length_nil, List.length_set]; done) | (simp only [List.length_append, List.length_map, List.length_take, List.length_drop, List.length_cons, List.length_nil, List.length_set]; omega)))) | ((with_reducible refine Ob.intro ?ha ?_); (case ha => (first | (as_aux_lemma => kernel_rfl) | ((try simp only [List.forall_mem_append, List.forall_mem_map, List.forall_mem_cons, List.forall_mem_nil, and_true, true_and]); (repeat' apply And.intro) <;> first | (intros; rfl) | omega | (simp only [List.length_append, List.length_map, List.length_take, List.length_drop, List.length_cons, List.length_nil, List.length_set]; omega) | (intro _ h; cases h))))) | ((with_reducible refine br_lt ?_)) | ((with_reducible refine br_lf ?_)) | ((with_reducible refine br_pos ?ha ?_); (case ha => (first | with_reducible assumption | omega | (simp only [List.length_append, List.length_map, List.length_take, List.length_drop, List.length_cons, List.length_nil, List.length_set]; omega)))) | ((with_reducible refine br_neg ?ha ?_); (case ha => (first | with_reducible assumption | omega | (simp only [List.length_append, List.length_map, List.length_take, List.length_drop, List.length_cons, List.length_nil, List.length_set]; omega)))) | ((with_reducible refine br_t ?ha ?_); (case ha => with_reducible assumption)) | ((with_reducible refine br_f ?ha ?_); (case ha => with_reducible assumption)) | ((with_reducible refine br_dec (fun h => ?_) (fun h => ?_))) | ((with_reducible refine br_not ?_)) | ((with_reducible refine br_b (fun h => ?_) (fun h => ?_))) | ((with_reducible refine wr_i64 rfl ?ha ?hb ?_); (case ha => (first | with_reducible assumption | omega | (simp only [List.length_append, List.length_map, List.length_take, List.length_drop, List.length_cons, List.length_nil, List.length_set]; omega))); (case hb => (first | with_reducible assumption | omega | (simp only [List.length_append, List.length_map, List.length_take, List.length_drop, List.length_cons, List.length_nil, List.length_set]; omega)))) | ((with_reducible refine wr_u64 rfl ?ha ?hb ?_); (case ha => (first | with_reducible assumption | omega | (simp only [List.length_append, List.length_map, List.length_take, List.length_drop, List.length_cons, List.length_nil, List.length_set]; omega))); (case hb => (first | with_reducible assumption | omega | (simp only [List.length_append, List.length_map, List.length_take, List.length_drop, List.length_cons, List.length_nil, List.length_set]; omega)))) | ((with_reducible refine wr_u32 rfl ?ha ?hb ?_); (case ha => (first | with_reducible assumption | omega | (simp only [List.length_append, List.length_map, List.length_take, List.length_drop, List.length_cons, List.length_nil, List.length_set]; omega))); (case hb => (first | with_reducible assumption | omega | (simp only [List.length_append, List.length_map, List.length_take, List.length_drop, List.length_cons, List.length_nil, List.length_set]; omega)))) | ((with_reducible refine And.intro ?_ ?_)) | skip))
      · exact last (hrest (by assumption)) (by assumption)
      · exact last' (hrest (by assumption)) (by assumption)
      · have hs := cinv_succ g1 hinv hr (by omega)
        rw [if_pos (by assumption)] at hs
        refine ⟨(k + 1, out ++ [mkR nx (r.lo - 1)], r.hi + 1), ⟨by simp only; omega, hs⟩, by simp only; omega, ?_⟩
        simp only [List.map_append, List.map_cons, List.map_nil, List.length_append, List.length_cons, List.length_nil]
        rw [enc_mkR n0 (by omega) (by omega) (by omega)]
        exact ⟨[(0, 3)], rfl, ⟨rfl, rfl, rfl, rfl, rfl, rfl, trivial⟩, ⟨rfl, trivial⟩⟩
      · have hs := cinv_succ g1 hinv hr (by omega)
        rw [if_neg (by assumption)] at hs
        exact ⟨(k + 1, out, r.hi + 1), ⟨by simp only; omega, hs⟩, by simp only; omega, ⟨[(0, 0)], rfl, ⟨rfl, rfl, rfl, rfl, rfl, rfl, trivial⟩, ⟨rfl, trivial⟩⟩⟩
    · have hrest : ∀ (i : Nat) s, k ≤ i → c[i]? = some s → top < s.lo := fun i s hi hs => by
        have := (List.getElem?_eq_some_iff.1 hs).1; omega
      iterate 60 (all_goals ((conv => whnf); first | (with_reducible refine in_map hkl ?_) | ((with_reducible refine sl_full ?ha ?_); (case ha => (first | with_reducible exact Nat.le_refl _ | with_reducible rfl | omega | (simp only [List.length_append, List.length_map, List.length_take, List.length_drop, List.length_cons, List.length_nil, List.length_set]; done) | (simp only [List.length_append, List.length_map, List.length_take, List.length_drop, List.length_cons, List.length_nil, List.length_set]; omega)))) | ((with_reducible refine Ob.intro ?ha ?_); (case ha => (first | (as_aux_lemma => kernel_rfl) | ((try simp only [List.forall_mem_append, List.forall_mem_map, List.forall_mem_cons, List.forall_mem_nil, and_true, true_and]); (repeat' apply And.intro) <;> first | (intros; rfl) | omega | (simp only [List.length_append, List.length_map, List.length_take, List.length_drop, List.length_cons, List.length_nil, List.length_set]; omega) | (intro _ h; cases h))))) | ((with_reducible refine br_lt ?_)) | ((with_reducible refine br_lf ?_)) | ((with_reducible refine br_pos ?ha ?_); (case ha => (first | with_reducible assumption | omega | (simp only [List.length_append, List.length_map, List.length_take, List.length_drop, List.length_cons, List.length_nil, List.length_set]; omega)))) | ((with_reducible refine br_neg ?ha ?_); (case ha => (first | with_reducible assumption | omega | (simp only [List.length_append, List.length_map, List.length_take, List.length_drop, List.length_cons, List.length_nil, List.length_set]; omega)))) | ((with_reducible refine br_t ?ha ?_); (case ha => with_reducible assumption)) | ((with_reducible refine br_f ?ha ?_); (case ha => with_reducible assumption)) | ((with_reducible refine br_dec (fun h => ?_) (fun h => ?_))) | ((with_reducible refine br_not ?_)) | ((with_reducible refine br_b (fun h => ?_) (fun h => ?_))) | ((with_reducible refine wr_i64 rfl ?ha ?hb ?_); (case ha => (first | with_reducible assumption | omega | (simp only [List.length_append, List.length_map, List.length_take, List.length_drop, List.length_cons, List.length_nil, List.length_set]; omega))); (case hb => (first | with_reducible assumption | omega | (simp only [List.length_append, List.length_map, List.length_take, List.length_drop, List.length_cons, List.length_nil, List.length_set]; omega)))) | ((with_reducible refine wr_u64 rfl ?ha ?hb ?_); (case ha => (first | with_reducible assumption | omega | (simp only [List.length_append, List.length_map, List.length_take, List.length_drop, List.length_cons, List.length_nil, List.length_set]; omega))); (case hb => (first | with_reducible assumption | omega | (simp only [List.length_append, List.length_map, List.length_take, List.length_drop, List.length_cons, List.length_nil, List.length_set]; omega)))) | ((with_reducible refine wr_u32 rfl ?ha ?hb ?_); (case ha => (first | with_reducible assumption | omega | (simp only [List.length_append, List.length_map, List.length_take, List.length_drop, List.length_cons, List.length_nil, List.length_set]; omega))); (case hb => (first | with_reducible assumption | omega | (simp only [List.length_append, List.length_map, List.length_take, List.length_drop, List.length_cons, List.length_nil, List.length_set]; omega)))) | ((with_reducible refine And.intro ?_ ?_)) | skip))
      · exact last hrest (by assumption)
      · exact last' hrest (by assumption)

structure IInv (A B : List Rg) (i j : Nat) (out : List Rg) : Prop where
  canon : Canon out
  sep : ∀ s, s ∈ out → ∀ v, has (A.drop i) v = true → has (B.drop j) v = true → s.hi + 1 < v
  mem : ∀ v, (has A v && has B v) = (has out v || (has (A.drop i) v && has (B.drop j) v))
  len : out.length ≤ i + j
theorem has_cons (r : Rg) (l : List Rg) (v : Int) : has (r :: l) v = ((decide (r.lo ≤ v) && decide (v ≤ r.hi)) || has l v) := by simp [has]
theorem drop_of {l : List Rg} {i : Nat} {r : Rg} (h : l[i]? = some r) : l.drop i = r :: l.drop (i + 1) := by
  obtain ⟨h1, h2⟩ := List.getElem?_eq_some_iff.1 h
  rw [List.drop_eq_getElem_cons h1, h2]
theorem canon_rest {l : List Rg} (h : Canon l) {i : Nat} {r : Rg} (hr : l[i]? = some r) {v : Int} (hv : has (l.drop (i + 1)) v = true) : r.hi + 1 < v := by
  obtain ⟨s, hs, h1, h2⟩ := has_iff.1 hv
  obtain ⟨j, hj⟩ := List.getElem?_of_mem hs
  rw [List.getElem?_drop] at hj
  have := List.pairwise_iff_getElem.1 h.2 i (i + 1 + j) (List.getElem?_eq_some_iff.1 hr).1 (List.getElem?_eq_some_iff.1 hj).1 (by omega)
  rw [(List.getElem?_eq_some_iff.1 hr).2, (List.getElem?_eq_some_iff.1 hj).2] at this
  omega
theorem canon_rest_f {l : List Rg} (h : Canon l) {i : Nat} {r : Rg} (hr : l[i]? = some r) {v : Int} (hv : v ≤ r.hi + 1) : has (l.drop (i + 1)) v = false := by
  cases hb : has (l.drop (i + 1)) v with
  | false => rfl
  | true => have := canon_rest h hr hb; omega
def cross (out : List Rg) (r s : Rg) : List Rg := if max r.lo s.lo ≤ min r.hi s.hi then out ++ [mkR (max r.lo s.lo) (min r.hi s.hi)] else out
theorem cross_has (out : List Rg) (r s : Rg) (v : Int) : has (cross out r s) v = (has out v || ((decide (r.lo ≤ v) && decide (v ≤ r.hi)) && (decide (s.lo ≤ v) && decide (v ≤ s.hi)))) := by
  have b1 := r.l0; have b2 := r.l1; have b3 := r.h0; have b4 := r.h1
  have d1 := s.l0; have d2 := s.l1; have d3 := s.h0; have d4 := s.h1
  unfold cross
  split
  · rw [has_append, has_one, mkR_lo (by omega) (by omega) (by omega) (by omega), mkR_hi (by omega) (by omega) (by omega) (by omega)]
    congr 1
    rw [Bool.eq_iff_iff]
    simp only [Bool.and_eq_true, decide_eq_true_eq]
    omega
  · rename_i h
    have : ((decide (r.lo ≤ v) && decide (v ≤ r.hi)) && (decide (s.lo ≤ v) && decide (v ≤ s.hi))) = false := by
      cases hb : ((decide (r.lo ≤ v) && decide (v ≤ r.hi)) && (decide (s.lo ≤ v) && decide (v ≤ s.hi))) with
      | false => rfl
      | true => simp only [Bool.and_eq_true, decide_eq_true_eq] at hb; omega
    rw [this, Bool.or_false]
theorem cross_canon {A B : List Rg} {i j : Nat} {out : List Rg} {r s : Rg} (h : IInv A B i j out) (hr : A[i]? = some r) (hs : B[j]? = some s) : Canon (cross out r s) ∧ (cross out r s).length ≤ i + j + 1 := by
  have b1 := r.l0; have b2 := r.l1; have b3 := r.h0; have b4 := r.h1
  have d1 := s.l0; have d2 := s.l1; have d3 := s.h0; have d4 := s.h1
  have hl := h.len
  unfold cross
  split
  · rename_i hle
    have e1 := mkR_lo (show 0 ≤ max r.lo s.lo by omega) (by omega) (show 0 ≤ min r.hi s.hi by omega) (by omega)
    have e2 := mkR_hi (show 0 ≤ max r.lo s.lo by omega) (by omega) (show 0 ≤ min r.hi s.hi by omega) (by omega)
    refine ⟨canon_append_one h.canon (by rw [e1, e2]; exact hle) (fun t ht => ?_), by simp; omega⟩
    rw [e1]
    refine h.sep t ht _ ?_ ?_
    · rw [drop_of hr, has_cons, Bool.or_eq_true, Bool.and_eq_true, decide_eq_true_eq, decide_eq_true_eq]; left; omega
    · rw [drop_of hs, has_cons, Bool.or_eq_true, Bool.and_eq_true, decide_eq_true_eq, decide_eq_true_eq]; left; omega
  · exact ⟨h.canon, by omega⟩
theorem cross_ends {out : List Rg} {r s t : Rg} (ht : t ∈ cross out r s) : t ∈ out ∨ (t.hi ≤ r.hi ∧ t.hi ≤ s.hi) := by
  have b1 := r.l0; have b2 := r.l1; have b3 := r.h0; have b4 := r.h1
  have d1 := s.l0; have d2 := s.l1; have d3 := s.h0; have d4 := s.h1
  unfold cross at ht
  split at ht
  · rcases List.mem_append.1 ht with ht | ht
    · exact .inl ht
    · simp at ht; subst ht
      right
      rw [mkR_hi (by omega) (by omega) (by omega) (by omega)]
      omega
  · exact .inl ht
theorem iinv_left {A B : List Rg} {i j : Nat} {out : List Rg} {r s : Rg} (hA : Canon A) (hB : Canon B) (h : IInv A B i j out) (hr : A[i]? = some r) (hs : B[j]? = some s) (hlt : r.hi < s.hi) : IInv A B (i + 1) j (cross out r s) := by
  obtain ⟨c1, c2⟩ := cross_canon h hr hs
  refine ⟨c1, fun t ht v h1 h2 => ?_, fun v => ?_, by omega⟩
  · rcases cross_ends ht with ht | ht
    · exact h.sep t ht v (by rw [drop_of hr, has_cons, h1, Bool.or_true]) h2
    · have := canon_rest hA hr h1; omega
  · rw [h.mem, cross_has, drop_of hr, has_cons, drop_of hs, has_cons]
    rcases Int.lt_or_le (r.hi) v with h1 | h1
    · rw [show decide (v ≤ r.hi) = false from decide_eq_false (by omega)]; simp
    · rw [canon_rest_f hA hr (by omega), canon_rest_f hB hs (by omega)]
      cases has out v <;> cases (decide (r.lo ≤ v) && decide (v ≤ r.hi)) <;> cases (decide (s.lo ≤ v) && decide (v ≤ s.hi)) <;> rfl
theorem iinv_right {A B : List Rg} {i j : Nat} {out : List Rg} {r s : Rg} (hA : Canon A) (hB : Canon B) (h : IInv A B i j out) (hr : A[i]? = some r) (hs : B[j]? = some s) (hge : s.hi ≤ r.hi) : IInv A B i (j + 1) (cross out r s) := by
  obtain ⟨c1, c2⟩ := cross_canon h hr hs
  refine ⟨c1, fun t ht v h1 h2 => ?_, fun v => ?_, by omega⟩
  · rcases cross_ends ht with ht | ht
    · exact h.sep t ht v h1 (by rw [drop_of hs, has_cons, h2, Bool.or_true])
    · have := canon_rest hB hs h2; omega
  · rw [h.mem, cross_has, drop_of hr, has_cons, drop_of hs, has_cons]
    rcases Int.lt_or_le (s.hi) v with h1 | h1
    · rw [show decide (v ≤ s.hi) = false from decide_eq_false (by omega)]; simp
    · rw [canon_rest_f hA hr (by omega), canon_rest_f hB hs (by omega)]
      cases has out v <;> cases (decide (r.lo ≤ v) && decide (v ≤ r.hi)) <;> cases (decide (s.lo ≤ v) && decide (v ≤ s.hi)) <;> rfl

/-- interval.Intersect -/
theorem c19 (a b : List Rg) (ha : a.length < 10000) (hb : b.length < 10000) {K : AV → List Vm.Obj → Prop}
    (hK : ∀ out, Canon out → (∀ v, has out v = (has a v && has b v)) → out.length ≤ a.length + b.length → K (encRs out) []) : ACall Try.prog 19 [encRs a, encRs b] [] K := by
  refine of19 rfl rfl ?_
  (conv => whnf)
  refine k39 a (by omega) fun A g1 g2 g3 => ?_
  (conv => whnf)
  refine k39 b (by omega) fun B f1 f2 f3 => ?_
  (conv => whnf)
  refine Lp.intro (Nat × Nat × List Rg) (fun g => ⟨1, [(0, .arr 2 (g.2.2.map encR))], [(0, encRs A), (1, encRs B), (5, .os 0 2 0 g.2.2.length), (6, .v (.int .i64 g.1)), (7, .v (.int .i64 g.2.1))]⟩)
    (fun g => g.1 ≤ A.length ∧ g.2.1 ≤ B.length ∧ IInv A B g.1 g.2.1 g.2.2) (fun g => (A.length - g.1) + (B.length - g.2.1)) (0, 0, []) ?_ ?_ ?_
  · exact ⟨Nat.zero_le _, Nat.zero_le _, canon_nil, fun s hs => by simp at hs, fun v => by simp [has_nil], Nat.le_refl _⟩
  · exact ⟨[(0, 0)], rfl, ⟨rfl, rfl, rfl, rfl, rfl, trivial⟩, ⟨rfl, trivial⟩⟩
  · rintro ⟨i, j, out⟩ ⟨hi, hj, hinv⟩
    simp only at hi hj hinv ⊢
    have hlen := hinv.len
    have fin : (∀ v, (has (A.drop i) v && has (B.drop j) v) = false) → K (encRs out) [] := fun he =>
      hK out hinv.canon (fun v => by rw [← g2, ← f2, hinv.mem, he, Bool.or_false]) (by omega)
    rcases Nat.lt_or_ge i A.length with hil | hil
    · rcases Nat.lt_or_ge j B.length with hjl | hjl
      · obtain ⟨r, hr⟩ : ∃ r, A[i]? = some r := ⟨_, List.getElem?_eq_getElem hil⟩
        obtain ⟨s, hs⟩ : ∃ s, B[j]? = some s := ⟨_, List.getElem?_eq_getElem hjl⟩
        have b1 := r.l0; have b2 := r.l1; have b3 := r.h0; have b4 := r.h1
        have d1 := s.l0; have d2 := s.l1; have d3 := s.h0; have d4 := s.h1
        have e0 : max r.lo s.lo ≤ min r.hi s.hi → cross out r s = out ++ [mkR (max r.lo s.lo) (min r.hi s.hi)] := fun h => by unfold cross; rw [if_pos h]
        have e1 : ¬ max r.lo s.lo ≤ min r.hi s.hi → cross out r s = out := fun h => by unfold cross; rw [if_neg h]
        have e2 := enc_mkR (show 0 ≤ max r.lo s.lo by omega) (by omega) (show 0 ≤ min r.hi s.hi by omega) (by omega)
        iterate 90 (all_goals ((conv => whnf); first | (with_reducible refine in_map hil ?_) | (with_reducible refine in_map hjl ?_) | (with_reducible refine ix_map hr ?_) | (with_reducible refine ix_map hs ?_) | ((with_reducible refine sl_full ?ha ?_); (case ha => (first | with_reducible exact Nat.le_refl _ | with_reducible rfl | omega | (simp only [List.length_append, List.length_map, List.length_take, List.length_drop, List.length_cons, List.length_nil, List.length_set]; done) | (simp only [List.length_append, List.length_map, List.length_take, List.length_drop, List.length_cons, List.length_nil, List.length_set]; omega)))) | ((with_reducible refine Ob.intro ?ha ?_); (case ha => (first | (as_aux_lemma => kernel_rfl) | ((try simp only [List.forall_mem_append, List.forall_mem_map, List.forall_mem_cons, List.forall_mem_nil, and_true, true_and]); (repeat' apply And.intro) <;> first | (intros; rfl) | omega | (simp only [List.length_append, List.length_map, List.length_take, List.length_drop, List.length_cons, List.length_nil, List.length_set]; omega) | (intro _ h; cases h))))) | ((with_reducible refine br_lt ?_)) | ((with_reducible refine br_lf ?_)) | ((with_reducible refine br_pos ?ha ?_); (case ha => (first | with_reducible assumption | omega | (simp only [List.length_append, List.length_map, List.length_take, List.length_drop, List.length_cons, List.length_nil, List.length_set]; omega)))) | ((with_reducible refine br_neg ?ha ?_); (case ha => (first | with_reducible assumption | omega | (simp only [List.length_append, List.length_map, List.length_take, List.length_drop, List.length_cons, List.length_nil, List.length_set]; omega)))) | ((with_reducible refine br_t ?ha ?_); (case ha => with_reducible assumption)) | ((with_reducible refine br_f ?ha ?_); (case ha => with_reducible assumption)) | ((with_reducible refine br_dec (fun h => ?_) (fun h => ?_))) | ((with_reducible refine br_not ?_)) | ((with_reducible refine br_b (fun h => ?_) (fun h => ?_))) | ((with_reducible refine wr_i64 rfl ?ha ?hb ?_); (case ha => (first | with_reducible assumption | omega | (simp only [List.length_append, List.length_map, List.length_take, List.length_drop, List.length_cons, List.length_nil, List.length_set]; omega))); (case hb => (first | with_reducible assumption | omega | (simp only [List.length_append, List.length_map, List.length_take, List.length_drop, List.length_cons, List.length_nil, List.length_set]; omega)))) | ((with_reducible refine wr_u64 rfl ?ha ?hb ?_); (case ha => (first | with_reducible assumption | omega | (simp only [List.length_append, List.length_map, List.length_take, List.length_drop, List.length_cons, List.length_nil, List.length_set]; omega))); (case hb => (first | with_reducible assumption | omega | (simp only [List.length_append, List.length_map, List.length_take, List.length_drop, List.length_cons, List.length_nil, List.length_set]; omega)))) | ((with_reducible refine wr_u32 rfl ?ha ?hb ?_); (case ha => (first | with_reducible assumption | omega | (simp only [List.length_append, List.length_map, List.length_take, List.length_drop, List.length_cons, List.length_nil, List.length_set]; omega))); (case hb => (first | with_reducible assumption | omega | (simp only [List.length_append, List.length_map, List.length_take, List.length_drop, List.length_cons, List.length_nil, List.length_set]; omega)))) | ((with_reducible refine And.intro ?_ ?_)) | skip))
        · have h := iinv_left g1 f1 hinv hr hs (by assumption)
          rw [e0 (by assumption)] at h
          refine ⟨(i + 1, j, out ++ [mkR (max r.lo s.lo) (min r.hi s.hi)]), ⟨by simp only; omega, hj, h⟩, by simp only; omega, ?_⟩
          simp only [List.map_append, List.map_cons, List.map_nil, List.length_append, List.length_cons, List.length_nil]
          rw [e2]
          exact ⟨[(0, 2)], rfl, ⟨rfl, rfl, rfl, rfl, rfl, trivial⟩, ⟨rfl, trivial⟩⟩
        · have h := iinv_right g1 f1 hinv hr hs (by omega)
          rw [e0 (by assumption)] at h
          refine ⟨(i, j + 1, out ++ [mkR (max r.lo s.lo) (min r.hi s.hi)]), ⟨hi, by simp only; omega, h⟩, by simp only; omega, ?_⟩
          simp only [List.map_append, List.map_cons, List.map_nil, List.length_append, List.length_cons, List.length_nil]
          rw [e2]
          exact ⟨[(0, 2)], rfl, ⟨rfl, rfl, rfl, rfl, rfl, trivial⟩, ⟨rfl, trivial⟩⟩
        · have h := iinv_left g1 f1 hinv hr hs (by assumption)
          rw [e1 (by assumption)] at h
          exact ⟨(i + 1, j, out), ⟨by simp only; omega, hj, h⟩, by simp only; omega, ⟨[(0, 0)], rfl, ⟨rfl, rfl, rfl, rfl, rfl, trivial⟩, ⟨rfl, trivial⟩⟩⟩
        · have h := iinv_right g1 f1 hinv hr hs (by omega)
          rw [e1 (by assumption)] at h
          exact ⟨(i, j + 1, out), ⟨hi, by simp only; omega, h⟩, by simp only; omega, ⟨[(0, 0)], rfl, ⟨rfl, rfl, rfl, rfl, rfl, trivial⟩, ⟨rfl, trivial⟩⟩⟩
      · iterate 10 (all_goals ((conv => whnf); first | (with_reducible refine in_map hil ?_) | (with_reducible refine in_map hjl ?_) | ((with_reducible refine sl_full ?ha ?_); (case ha => (first | with_reducible exact Nat.le_refl _ | with_reducible rfl | omega | (simp only [List.length_append, List.length_map, List.length_take, List.length_drop, List.length_cons, List.length_nil, List.length_set]; done) | (simp only [List.length_append, List.length_map, List.length_take, List.length_drop, List.length_cons, List.length_nil, List.length_set]; omega)))) | ((with_reducible refine Ob.intro ?ha ?_); (case ha => (first | (as_aux_lemma => kernel_rfl) | ((try simp only [List.forall_mem_append, List.forall_mem_map, List.forall_mem_cons, List.forall_mem_nil, and_true, true_and]); (repeat' apply And.intro) <;> first | (intros; rfl) | omega | (simp only [List.length_append, List.length_map, List.length_take, List.length_drop, List.length_cons, List.length_nil, List.length_set]; omega) | (intro _ h; cases h))))) | ((with_reducible refine br_lt ?_)) | ((with_reducible refine br_lf ?_)) | ((with_reducible refine br_pos ?ha ?_); (case ha => (first | with_reducible assumption | omega | (simp only [List.length_append, List.length_map, List.length_take, List.length_drop, List.length_cons, List.length_nil, List.length_set]; omega)))) | ((with_reducible refine br_neg ?ha ?_); (case ha => (first | with_reducible assumption | omega | (simp only [List.length_append, List.length_map, List.length_take, List.length_drop, List.length_cons, List.length_nil, List.length_set]; omega)))) | ((with_reducible refine br_t ?ha ?_); (case ha => with_reducible assumption)) | ((with_reducible refine br_f ?ha ?_); (case ha => with_reducible assumption)) | ((with_reducible refine br_dec (fun h => ?_) (fun h => ?_))) | ((with_reducible refine br_not ?_)) | ((with_reducible refine br_b (fun h => ?_) (fun h => ?_))) | ((with_reducible refine wr_i64 rfl ?ha ?hb ?_); (case ha => (first | with_reducible assumption | omega | (simp only [List.length_append, List.length_map, List.length_take, List.length_drop, List.length_cons, List.length_nil, List.length_set]; omega))); (case hb => (first | with_reducible assumption | omega | (simp only [List.length_append, List.length_map, List.length_take, List.length_drop, List.length_cons, List.length_nil, List.length_set]; omega)))) | ((with_reducible refine wr_u64 rfl ?ha ?hb ?_); (case ha => (first | with_reducible assumption | omega | (simp only [List.length_append, List.length_map, List.length_take, List.length_drop, List.length_cons, List.length_nil, List.length_set]; omega))); (case hb => (first | with_reducible assumption | omega | (simp only [List.length_append, List.length_map, List.length_take, List.length_drop, List.length_cons, List.length_nil, List.length_set]; omega)))) | ((with_reducible refine wr_u32 rfl ?ha ?hb ?_); (case ha => (first | with_reducible assumption | omega | (simp only [List.length_append, List.length_map, List.length_take, List.length_drop, List.length_cons, List.length_nil, List.length_set]; omega))); (case hb => (first | with_reducible assumption | omega | (simp only [List.length_append, List.length_map, List.length_take, List.length_drop, List.length_cons, List.length_nil, List.length_set]; omega)))) | ((with_reducible refine And.intro ?_ ?_)) | skip))
        exact fin fun v => by rw [List.drop_of_length_le hjl, has_nil, Bool.and_false]
    · iterate 10 (all_goals ((conv => whnf); first | (with_reducible refine in_map hil ?_) | ((with_reducible refine sl_full ?ha ?_); (case ha => (first | with_reducible exact Nat.le_refl _ | with_reducible rfl | omega | (simp only [List.length_append, List.length_map, List.length_take, List.length_drop, List.length_cons, List.length_nil, List.length_set]; done) | (simp only [List.length_append, List.length_map, List.length_take, List.length_drop, List.length_cons, List.length_nil, List.length_set]; omega)))) | ((with_reducible refine Ob.intro ?ha ?_); (case ha => (first | (as_aux_lemma => kernel_rfl) | ((try simp only [List.forall_mem_append, List.forall_mem_map, List.forall_mem_cons, List.forall_mem_nil, and_true, true_and]); (repeat' apply And.intro) <;> first | (intros; rfl) | omega | (simp only [List.length_append, List.length_map, List.length_take, List.length_drop, List.length_cons, List.length_nil, List.length_set]; omega) | (intro _ h; cases h))))) | ((with_reducible refine br_lt ?_)) | ((with_reducible refine br_lf ?_)) | ((with_reducible refine br_pos ?ha ?_); (case ha => (first | with_reducible assumption | omega | (simp only [List.length_append, List.length_map, List.length_take, List.length_drop, List.length_cons, List.length_nil, List.length_set]; omega)))) | ((with_reducible refine br_neg ?ha ?_); (case ha => (first | with_reducible assumption | omega | (simp only [List.length_append, List.length_map, List.length_take, List.length_drop, List.length_cons, List.length_nil, List.length_set]; omega)))) | ((with_reducible refine br_t ?ha ?_); (case ha => with_reducible assumption)) | ((with_reducible refine br_f ?ha ?_); (case ha => with_reducible assumption)) | ((with_reducible refine br_dec (fun h => ?_) (fun h => ?_))) | ((with_reducible refine br_not ?_)) | ((with_reducible refine br_b (fun h => ?_) (fun h => ?_))) | ((with_reducible refine wr_i64 rfl ?ha ?hb ?_); (case ha => (first | with_reducible assumption | omega | (simp only [List.length_append, List.length_map, List.length_take, List.length_drop, List.length_cons, List.length_nil, List.length_set]; omega))); (case hb => (first | with_reducible assumption | omega | (simp only [List.length_append, List.length_map, List.length_take, List.length_drop, List.length_cons, List.length_nil, List.length_set]; omega)))) | ((with_reducible refine wr_u64 rfl ?ha ?hb ?_); (case ha => (first | with_reducible assumption | omega | (simp only [List.length_append, List.length_map, List.length_take, List.length_drop, List.length_cons, List.length_nil, List.length_set]; omega))); (case hb => (first | with_reducible assumption | omega | (simp only [List.length_append, List.length_map, List.length_take, List.length_drop, List.length_cons, List.length_nil, List.length_set]; omega)))) | ((with_reducible refine wr_u32 rfl ?ha ?hb ?_); (case ha => (first | with_reducible assumption | omega | (simp only [List.length_append, List.length_map, List.length_take, List.length_drop, List.length_cons, List.length_nil, List.length_set]; omega))); (case hb => (first | with_reducible assumption | omega | (simp only [List.length_append, List.length_map, List.length_take, List.length_drop, List.length_cons, List.length_nil, List.length_set]; omega)))) | ((with_reducible refine And.intro ?_ ?_)) | skip))
      exact fin fun v => by rw [List.drop_of_length_le hil, has_nil, Bool.false_and]

/-- interval.Subtract -/
theorem c24 (a b : List Rg) (ha : a.length < 9000) (hb : b.length < 9000) {K : AV → List Vm.Obj → Prop}
    (hK : ∀ out, Canon out → (∀ v, has out v = (has a v && !has b v)) → out.length ≤ a.length + b.length + 1 → K (encRs out) []) : ACall Try.prog 24 [encRs a, encRs b] [] K := by
  refine of24 rfl rfl ?_
  (conv => whnf)
  refine c23 b 4294967295 (by decide) (by decide) (by omega) fun n g1 g2 g3 => ?_
  (conv => whnf)
  refine c19 a n (by omega) (by omega) fun c h1 h2 h3 => ?_
  (conv => whnf)
  refine hK c h1 (fun v => ?_) (by omega)
  rw [h2, g2]
  cases ha : has a v with
  | false => rfl
  | true =>
    have hb := has_bounds ha
    rw [show decide (0 ≤ v) = true from decide_eq_true (by omega), show decide (v ≤ 4294967295) = true from decide_eq_true (by omega)]
    rfl
/-- interval.Subset -/
theorem c27 (a b : List Rg) (ha : a.length < 9000) (hb : b.length < 9000) {K : AV → List Vm.Obj → Prop} (hK : ∀ s, (s = true ↔ ∀ v, has a v = true → has b v = true) → K (.sb s) []) : ACall Try.prog 27 [encRs a, encRs b] [] K := by
  refine ACall.bool (of27 rfl rfl ?_)
  (conv => whnf)
  refine c24 a b ha hb fun c h1 h2 h3 => ?_
  iterate 6 (all_goals ((conv => whnf); first | ((with_reducible refine sl_full ?ha ?_); (case ha => (first | with_reducible exact Nat.le_refl _ | with_reducible rfl | omega | (simp only [List.length_append, List.length_map, List.length_take, List.length_drop, List.length_cons, List.length_nil, List.length_set]; done) | (simp only [List.length_append, List.length_map, List.length_take, List.length_drop, List.length_cons, List.length_nil, List.length_set]; omega)))) | ((with_reducible refine Ob.intro ?ha ?_); (case ha => (first | (as_aux_lemma => kernel_rfl) | ((try simp only [List.forall_mem_append, List.forall_mem_map, List.forall_mem_cons, List.forall_mem_nil, and_true, true_and]); (repeat' apply And.intro) <;> first | (intros; rfl) | omega | (simp only [List.length_append, List.length_map, List.length_take, List.length_drop, List.length_cons, List.length_nil, List.length_set]; omega) | (intro _ h; cases h))))) | ((with_reducible refine br_lt ?_)) | ((with_reducible refine br_lf ?_)) | ((with_reducible refine br_pos ?ha ?_); (case ha => (first | with_reducible assumption | omega | (simp only [List.length_append, List.length_map, List.length_take, List.length_drop, List.length_cons, List.length_nil, List.length_set]; omega)))) | ((with_reducible refine br_neg ?ha ?_); (case ha => (first | with_reducible assumption | omega | (simp only [List.length_append, List.length_map, List.length_take, List.length_drop, List.length_cons, List.length_nil, List.length_set]; omega)))) | ((with_reducible refine br_t ?ha ?_); (case ha => with_reducible assumption)) | ((with_reducible refine br_f ?ha ?_); (case ha => with_reducible assumption)) | ((with_reducible refine br_dec (fun h => ?_) (fun h => ?_))) | ((with_reducible refine br_not ?_)) | ((with_reducible refine br_b (fun h => ?_) (fun h => ?_))) | ((with_reducible refine wr_i64 rfl ?ha ?hb ?_); (case ha => (first | with_reducible assumption | omega | (simp only [List.length_append, List.length_map, List.length_take, List.length_drop, List.length_cons, List.length_nil, List.length_set]; omega))); (case hb => (first | with_reducible assumption | omega | (simp only [List.length_append, List.length_map, List.length_take, List.length_drop, List.length_cons, List.length_nil, List.length_set]; omega)))) | ((with_reducible refine wr_u64 rfl ?ha ?hb ?_); (case ha => (first | with_reducible assumption | omega | (simp only [List.length_append, List.length_map, List.length_take, List.length_drop, List.length_cons, List.length_nil, List.length_set]; omega))); (case hb => (first | with_reducible assumption | omega | (simp only [List.length_append, List.length_map, List.length_take, List.length_drop, List.length_cons, List.length_nil, List.length_set]; omega)))) | ((with_reducible refine wr_u32 rfl ?ha ?hb ?_); (case ha => (first | with_reducible assumption | omega | (simp only [List.length_append, List.length_map, List.length_take, List.length_drop, List.length_cons, List.length_nil, List.length_set]; omega))); (case hb => (first | with_reducible assumption | omega | (simp only [List.length_append, List.length_map, List.length_take, List.length_drop, List.length_cons, List.length_nil, List.length_set]; omega)))) | ((with_reducible refine And.intro ?_ ?_)) | skip))
  refine .inr ⟨_, rfl, hK _ ?_⟩
  rw [decide_eq_true_eq]
  have e : (((c.map encR).length : Int) = 0) ↔ c = [] := by
    rw [List.length_map]
    constructor
    · intro h; exact List.eq_nil_of_length_eq_zero (by omega)
    · rintro rfl; rfl
  rw [e, canon_nil_iff h1]
  constructor
  · intro h v hv
    have := h v
    rw [h2, hv] at this
    simpa using this
  · intro h v
    rw [h2]
    cases hv : has a v with
    | false => rfl
    | true => rw [h v hv]; rfl

end Go.Proofs.Ytkpnlmainmlogaa
