/- The functions of the seat as the machine takes them: contexts, bodies, contracts out of the code. Printed by gsctx.py. Plans: the plain law. Topologies compared and copied. AddressingSound: its contract. Free prefixes: the plain law. AddressingFree: its contract. -/
import Derived.Test.YtgcplfplbcpemaaGreatProg
import Derived.Test.YtgcplfplbcpemaaGreatM11
set_option linter.unusedVariables false
set_option maxRecDepth 20000
namespace Go.Proofs.YtgcplfplbcpemaaGreat
open Go Go.Vm

/-- netsegment/nsgref11.Same -/
noncomputable def guSame : Ctx := { N := 122, np := 0, own := fun _ => false, plan := fun i => match Nat.beq i 6 with | true => some (lin [(0, true), (1, true), (2, true), (3, true), (4, true), (5, true), (6, true), (7, true), (8, true), (9, true), (10, true)]) | false => match Nat.beq i 11 with | true => some (lin [(0, true), (1, true), (2, true), (3, true), (4, true), (5, true), (6, true), (7, true), (8, true), (9, true), (10, true)]) | false => match Nat.beq i 16 with | true => some (lin [(0, true), (1, true), (2, true), (3, true), (4, true), (5, true), (6, true), (7, true), (8, true), (9, true), (10, true)]) | false => match Nat.beq i 21 with | true => some (lin [(0, true), (1, true), (2, true), (3, true), (4, true), (5, true), (6, true), (7, true), (8, true), (9, true), (10, true)]) | false => none, hints := fun _ => [], cut := fun _ => false }
noncomputable def buSame : Code := match Tryz.f17.body with | some c => c | none => .skip
theorem ofuSame {args : List AV} {hs : List Vm.Obj} {K : AV → List Vm.Obj → Prop} (hp : Nat.beq guSame.np hs.length = true) (ha : Nat.ble args.length 122 = true) (hq : initQ hs args fun σ => codeQ Tryz.prog guSame buSame σ (retQ Tryz.prog guSame Tryz.f17.results.toList K)) : ACall Tryz.prog 17 args hs K :=
  ACall.of_code (Γ := guSame) Tryz.func17 (by kernel_rfl) (by kernel_rfl) (by kernel_rfl) (by kernel_rfl) (Nat.eq_of_beq_eq_true hp) ha hq
/-- netsegment/nsggen.CopyTopology -/
noncomputable def gnCopy : Ctx := { N := 24, np := 0, own := fun _ => false, plan := fun _ => none, hints := fun _ => [], cut := fun _ => false, res := true }
noncomputable def bnCopy : Code := match Tryz.f13.body with | some c => c | none => .skip
theorem ofnCopy {args : List AV} {hs : List Vm.Obj} {K : AV → List Vm.Obj → Prop} (hp : Nat.beq gnCopy.np hs.length = true) (ha : Nat.ble args.length 24 = true) (hq : initQ hs args fun σ => codeQ Tryz.prog gnCopy bnCopy σ (retQ Tryz.prog gnCopy Tryz.f13.results.toList K)) : ACall Tryz.prog 13 args hs K :=
  ACall.of_code (Γ := gnCopy) Tryz.func13 (by kernel_rfl) (by kernel_rfl) (by kernel_rfl) (by kernel_rfl) (Nat.eq_of_beq_eq_true hp) ha hq
/-- (*netsegment/nsggen.Tape).Addr -/
noncomputable def gnAddr : Ctx := { N := 40, np := 1, own := fun i => match Nat.beq i 15 with | true => true | false => false, plan := fun i => match Nat.beq i 5 with | true => some (.one 0 true (.one 2 true (.one 4 true (.one 7 true (.one 10 true (.one 14 true (.wch 1 (.wch 3 (.wch 5 (.one 6 true (.wch 8 (.one 9 true (.wch 11 (.one 12 true (.alt 13 (.one 15 false (.one 16 true (.one 17 true (.one 18 true (.done))))) (.alt 15 (.one 13 false (.one 16 true (.one 17 true (.one 18 true (.done))))) (.stop))))))))))))))))) | false => none, hints := fun _ => [], cut := fun _ => false }
noncomputable def bnAddr : Code := match Tryz.f42.body with | some c => c | none => .skip
theorem ofnAddr {args : List AV} {hs : List Vm.Obj} {K : AV → List Vm.Obj → Prop} (hp : Nat.beq gnAddr.np hs.length = true) (ha : Nat.ble args.length 40 = true) (hq : initQ hs args fun σ => codeQ Tryz.prog gnAddr bnAddr σ (retQ Tryz.prog gnAddr Tryz.f42.results.toList K)) : ACall Tryz.prog 42 args hs K :=
  ACall.of_code (Γ := gnAddr) Tryz.func42 (by kernel_rfl) (by kernel_rfl) (by kernel_rfl) (by kernel_rfl) (Nat.eq_of_beq_eq_true hp) ha hq

end Go.Proofs.YtgcplfplbcpemaaGreat

set_option linter.unusedVariables false
set_option linter.unusedSimpArgs false
set_option maxRecDepth 20000
namespace Go.Proofs.YtgcplfplbcpemaaGreat
open Go Go.Vm

/-- a difference of sets is a list of ranges -/
theorem sub_exists (a b : List Rg) : ∃ l, Canon l ∧ ∀ v, has l v = (has a v && !has b v) := by
  have inv := starts_inv (a ++ b) (top := 4294967295) (by decide)
  obtain ⟨r0, hr0⟩ := inv.zero
  have hseg : ∀ s, s ∈ segs 4294967295 (starts (a ++ b) 4294967295) → ∀ v, s.1 ≤ v → v ≤ s.2 → (fun v => has a v && !has b v) v = (fun v => has a v && !has b v) s.1 := by
    intro s hs v h1 h2
    simp only
    rw [has_const (by decide) (fun r hr => List.mem_append.2 (.inl hr)) hs h1 h2, has_const (by decide) (fun r hr => List.mem_append.2 (.inr hr)) hs h1 h2]
  have hsort := inv.sorted
  have hrange := inv.range
  rw [hr0] at hseg hsort hrange
  have hk := fold_inv (f := fun v => has a v && !has b v) (top := 4294967295) (by decide) r0 0 [] ⟨⟨fun r hr => by simp at hr, by simp⟩, fun v => by
    rw [Bool.eq_iff_iff]
    simp only [has, List.any_nil, Bool.false_eq_true, Bool.and_eq_true, decide_eq_true_eq, false_iff]
    omega, fun r hr => by simp at hr⟩ hsort hrange hseg
  refine ⟨_, hk.canon, fun v => ?_⟩
  rw [hk.mem]
  cases h : (has a v && !has b v) with
  | false => simp
  | true =>
    simp only [Bool.and_eq_true] at h
    obtain ⟨r, hr, h1, h2⟩ := has_iff.1 h.1
    have := r.l0; have := r.h1
    simp only [Bool.and_true, Bool.and_eq_true, decide_eq_true_eq]
    omega
theorem canonOf_spec {f : Int → Bool} (h : ∃ l, Canon l ∧ ∀ v, has l v = f v) : Canon (canonOf f) ∧ ∀ v, has (canonOf f) v = f v := by
  obtain ⟨l, h1, h2⟩ := h
  rw [canonOf_eq h1 h2]
  exact ⟨h1, h2⟩
theorem freeOf_spec {pools : List Pf} {edges : List Ed} (hp : ∀ p, p ∈ pools → p.okP) (he : ∀ e, e ∈ edges → e.pf.okP) : Canon (freeOf pools edges) ∧ ∀ v, has (freeOf pools edges) v = ((pools.any fun p => p.has v) && !((fixed edges).any fun p => p.has v)) := by
  refine canonOf_spec ?_
  obtain ⟨l, h1, h2⟩ := sub_exists (pools.map Pf.rg) ((fixed edges).map Pf.rg)
  refine ⟨l, h1, fun v => ?_⟩
  rw [h2, rg_has hp, rg_has fun p hp => by
    obtain ⟨e, h1, rfl⟩ := List.mem_map.1 hp
    exact he e (List.mem_filter.1 h1).1]
theorem cutOf_spec (sp : List Rg) {a n : Int} (h0 : 0 ≤ a) (hn : 0 < n) (h1 : a + n - 1 ≤ 4294967295) : Canon (cutOf sp a n) ∧ ∀ v, has (cutOf sp a n) v = (has sp v && !(decide (a ≤ v) && decide (v ≤ a + n - 1))) := by
  refine canonOf_spec ?_
  obtain ⟨l, q1, q2⟩ := sub_exists sp [mkR a (a + n - 1)]
  refine ⟨l, q1, fun v => ?_⟩
  rw [q2, has_one, mkR_lo h0 (by omega) (by omega) h1, mkR_hi h0 (by omega) (by omega) h1]
theorem low_mod {lo n : Int} (hn : 0 < n) : ((lo + n - 1) / n * n) % n = 0 := by rw [Int.mul_emod_left]
theorem lowest_in {sp : List Rg} {n a : Int} (hn : 0 < n) (h : lowest sp n = some a) : ∃ r, r ∈ sp ∧ r.lo ≤ a ∧ a + n - 1 ≤ r.hi ∧ a % n = 0 := by
  obtain ⟨r, hr, h1⟩ := List.exists_of_findSome?_eq_some h
  unfold lowIn at h1
  split at h1
  · rename_i hle
    cases h1
    exact ⟨r, hr, (low_ge hn).1, hle, low_mod hn⟩
  · cases h1
/-- no block of that size starts lower -/
theorem lowest_min {sp : List Rg} {n a : Int} (hc : Canon sp) (hn : 0 < n) (h : lowest sp n = some a) {b : Int} (hb : b % n = 0) (hin : ∀ v, b ≤ v → v ≤ b + n - 1 → has sp v = true) : a ≤ b := by
  rcases Int.lt_or_le b a with hlt | hle
  case inr => exact hle
  exfalso
  rw [lowest, List.findSome?_eq_some_iff] at h
  obtain ⟨l1, r, l2, hsp, h1, h2⟩ := h
  -- the range in which b lies
  obtain ⟨s, hs, s1, s2⟩ := has_iff.1 (hin b (Int.le_refl _) (by omega))
  have send : b + n - 1 ≤ s.hi := by
    rcases Int.lt_or_le s.hi (b + n - 1) with hx | hx
    · obtain ⟨s', hs', t1, t2⟩ := has_iff.1 (hin (s.hi + 1) (by omega) (by omega))
      exfalso
      have hpw := hc.2
      have key : ∀ {l : List Rg}, (l.Pairwise fun r s => r.hi + 1 < s.lo) → s ∈ l → s' ∈ l → (∀ r, r ∈ l → r.lo ≤ r.hi) → False := by
        intro l
        induction l with
        | nil => intro _ h; cases h
        | cons x l ih =>
          intro hp m1 m2 hv
          obtain ⟨p1, p2⟩ := List.pairwise_cons.1 hp
          rcases List.mem_cons.1 m1 with rfl | n1
          · rcases List.mem_cons.1 m2 with h' | n2
            · rw [h'] at t1 t2; omega
            · have := p1 s' n2; omega
          · rcases List.mem_cons.1 m2 with h' | n2
            · have := p1 s n1
              have := hv s (by simp [n1])
              rw [h'] at t1 t2
              omega
            · exact ih p2 n1 n2 (fun r hr => hv r (by simp [hr]))
      exact key hpw hs hs' hc.1
    · exact hx
  have fits : ∀ r : Rg, r.lo ≤ b → b + n - 1 ≤ r.hi → ∃ a', lowIn n r = some a' ∧ a' ≤ b := by
    intro r q1 q2
    have g := low_ge (r := r) hn
    have hm := low_mod (lo := r.lo) hn
    have hle : (r.lo + n - 1) / n * n ≤ b := by
      rcases Int.lt_or_le b ((r.lo + n - 1) / n * n) with hx | hx
      · have d1 : n ∣ ((r.lo + n - 1) / n * n - b) := Int.dvd_sub (Int.dvd_of_emod_eq_zero hm) (Int.dvd_of_emod_eq_zero hb)
        have := Int.le_of_dvd (by omega) d1
        omega
      · exact hx
    exact ⟨_, by rw [lowIn, if_pos (by omega)], hle⟩
  obtain ⟨a', ha', hab⟩ := fits s s1 send
  rw [hsp] at hs hc
  rcases List.mem_append.1 hs with hs | hs
  · rw [h2 s hs] at ha'; cases ha'
  · rcases List.mem_cons.1 hs with rfl | hs
    · rw [h1] at ha'; cases ha'; omega
    · have hpw := (List.pairwise_append.1 hc.2).2.1
      have hx := (List.pairwise_cons.1 hpw).1 s hs
      have hr := hc.1 r (by simp)
      unfold lowIn at h1
      split at h1
      · cases h1; omega
      · cases h1

theorem fixed_any {l : List Ed} {v : Int} : ((fixed l).any fun p => p.has v) = true ↔ ∃ (i : Nat) (e : Ed), l[i]? = some e ∧ e.pl = false ∧ e.pf.has v = true := by
  rw [List.any_eq_true]
  constructor
  · rintro ⟨p, hp, hv⟩
    obtain ⟨e, h1, rfl⟩ := List.mem_map.1 hp
    obtain ⟨h1, h2⟩ := List.mem_filter.1 h1
    obtain ⟨i, hi⟩ := List.mem_iff_getElem?.1 h1
    exact ⟨i, e, hi, by simpa using h2, hv⟩
  · rintro ⟨i, e, hi, h1, hv⟩
    exact ⟨e.pf, List.mem_map_of_mem (List.mem_filter.2 ⟨List.mem_of_getElem? hi, by simp [h1]⟩), hv⟩
theorem meet_common {p q : Pf} (h : p.meet q = true) : ∃ v, p.has v = true ∧ q.has v = true := by
  unfold Pf.meet at h
  simp only [Bool.or_eq_true] at h
  rcases h with h | h
  · obtain ⟨h1, h2, h3⟩ := cov_iff.1 h
    have := pz_pos q.bits
    exact ⟨q.addr, h3, has_iffP.2 ⟨h1, Int.le_refl _, by omega⟩⟩
  · obtain ⟨h1, h2, h3⟩ := cov_iff.1 h
    have := pz_pos p.bits
    exact ⟨p.addr, has_iffP.2 ⟨h1, Int.le_refl _, by omega⟩, h3⟩

/-- what a served edge has become -/
def Served (t : Tp) (e0 e : Ed) : Prop := ∃ a, 0 ≤ a ∧ a + pz e0.pf.bits - 1 ≤ 4294967295 ∧ a % pz e0.pf.bits = 0 ∧ e = { e0 with pf := mkPf a e0.pf.bits, pl := false } ∧ ∀ v, a ≤ v → v ≤ a + pz e0.pf.bits - 1 → (t.pools.any fun p => p.has v) = true
structure PInv (t : Tp) (es : List Ed) (sp : List Rg) : Prop where
  len : es.length = t.edges.length
  can : Canon sp
  mem : ∀ v, has sp v = ((t.pools.any fun p => p.has v) && !((fixed es).any fun p => p.has v))
  at_ : ∀ (i : Nat) e e0, es[i]? = some e → t.edges[i]? = some e0 → e = e0 ∨ (e0.pl = true ∧ Served t e0 e)
  apart : ∀ (i : Nat) e, es[i]? = some e → ∀ (j : Nat) o, j < i → es[j]? = some o → apartE e o
  bits : ∀ e, e ∈ es → 0 ≤ e.pf.bits ∧ e.pf.bits ≤ 32
theorem apartE_symm {e o : Ed} (h : apartE e o) : apartE o e := by
  rintro ⟨h1, h2, h3⟩
  refine h ⟨h2, h1, ?_⟩
  unfold Pf.meet at h3 ⊢
  rw [Bool.or_comm]; exact h3
theorem has_mkPf {a b v : Int} (h0 : 0 ≤ a) (h1 : a + pz b - 1 ≤ 4294967295) (hb0 : 0 ≤ b) (hb1 : b ≤ 32) (hm : a % pz b = 0) : (mkPf a b).has v = true ↔ a ≤ v ∧ v ≤ a + pz b - 1 := by
  have := pz_pos b
  rw [has_iffP, mkPf_bits, mkPf_addr h0 (by omega)]
  refine ⟨fun h => h.2, fun h => ⟨⟨?_, ?_, ?_⟩, h⟩⟩
  · rw [mkPf_bits]; exact hb0
  · rw [mkPf_bits]; exact hb1
  · rw [mkPf_bits, mkPf_addr h0 (by omega)]; exact hm
theorem PInv.step {t : Tp} {es : List Ed} {sp : List Rg} (h : PInv t es sp) {i : Nat} {e : Ed} {a : Int} (hi : es[i]? = some e) (hpl : e.pl = true) (ha : lowest sp (pz e.pf.bits) = some a) :
    PInv t (setE es i a) (cutOf sp a (pz e.pf.bits)) ∧ (setE es i a)[i]? = some { e with pf := mkPf a e.pf.bits, pl := false } ∧ (0 ≤ a ∧ a + pz e.pf.bits - 1 ≤ 4294967295 ∧ a % pz e.pf.bits = 0) := by
  have hn := pz_pos e.pf.bits
  obtain ⟨hb0, hb1⟩ := h.bits e (List.mem_of_getElem? hi)
  obtain ⟨r, hr, r1, r2, r3⟩ := lowest_in hn ha
  have a0 : 0 ≤ a := by have := r.l0; omega
  have a1 : a + pz e.pf.bits - 1 ≤ 4294967295 := by have := r.h1; omega
  obtain ⟨c1, c2⟩ := cutOf_spec sp a0 hn a1
  have hin : ∀ v, a ≤ v → v ≤ a + pz e.pf.bits - 1 → has sp v = true := fun v v1 v2 => has_iff.2 ⟨r, hr, by omega, by omega⟩
  have hilt := (List.getElem?_eq_some_iff.1 hi).1
  have hset : setE es i a = es.set i { e with pf := mkPf a e.pf.bits, pl := false } := setE_at hi a
  have hget : (setE es i a)[i]? = some { e with pf := mkPf a e.pf.bits, pl := false } := by rw [hset, List.getElem?_set_self hilt]
  have hother : ∀ j, j ≠ i → (setE es i a)[j]? = es[j]? := fun j hj => by rw [hset, List.getElem?_set_ne (Ne.symm hj)]
  have hnew : ∀ v, (mkPf a e.pf.bits).has v = true ↔ a ≤ v ∧ v ≤ a + pz e.pf.bits - 1 := fun v => has_mkPf a0 a1 hb0 hb1 r3
  have hfix : ∀ v, ((fixed (setE es i a)).any fun p => p.has v) = (((fixed es).any fun p => p.has v) || (decide (a ≤ v) && decide (v ≤ a + pz e.pf.bits - 1))) := by
    intro v
    rw [Bool.eq_iff_iff, fixed_any, Bool.or_eq_true, fixed_any, Bool.and_eq_true, decide_eq_true_eq, decide_eq_true_eq, ← hnew]
    constructor
    · rintro ⟨j, o, hj, h1, h2⟩
      by_cases hji : j = i
      · subst hji; rw [hget] at hj; cases hj; exact .inr h2
      · rw [hother j hji] at hj; exact .inl ⟨j, o, hj, h1, h2⟩
    · rintro (⟨j, o, hj, h1, h2⟩ | h2)
      · by_cases hji : j = i
        · subst hji; rw [hi] at hj; cases hj; rw [hpl] at h1; cases h1
        · exact ⟨j, o, by rw [hother j hji]; exact hj, h1, h2⟩
      · exact ⟨i, _, hget, rfl, h2⟩
  refine ⟨⟨by rw [setE_length]; exact h.len, c1, fun v => ?_, fun j o o0 hj h0 => ?_, fun j o hj k q hk hq => ?_, setE_bits h.bits⟩, hget, a0, a1, r3⟩
  · rw [c2, h.mem, hfix]
    cases (t.pools.any fun p => p.has v) <;> cases ((fixed es).any fun p => p.has v) <;> cases (decide (a ≤ v) && decide (v ≤ a + pz e.pf.bits - 1)) <;> rfl
  · by_cases hji : j = i
    · subst hji
      rw [hget] at hj; cases hj
      rcases h.at_ j e o0 hi h0 with rfl | ⟨_, hs⟩
      · refine .inr ⟨hpl, a, a0, a1, r3, rfl, fun v v1 v2 => ?_⟩
        have := hin v v1 v2
        rw [h.mem] at this
        simp only [Bool.and_eq_true] at this
        exact this.1
      · obtain ⟨_, _, _, _, he, _⟩ := hs
        rw [he] at hpl; cases hpl
    · rw [hother j hji] at hj; exact h.at_ j o o0 hj h0
  · -- the new one is apart from the others
    have newApart : ∀ (j : Nat) o, j ≠ i → es[j]? = some o → apartE { e with pf := mkPf a e.pf.bits, pl := false } o := by
      rintro j o hji hj ⟨_, h1, h2⟩
      obtain ⟨v, v1, v2⟩ := meet_common h2
      have hv := (hnew v).1 v1
      have := hin v hv.1 hv.2
      rw [h.mem] at this
      simp only [Bool.and_eq_true, Bool.not_eq_true'] at this
      have hf := fixed_any.2 ⟨j, o, hj, h1, v2⟩
      rw [this.2] at hf; cases hf
    by_cases hji : j = i
    · subst hji
      rw [hget] at hj; cases hj
      have hkj : k ≠ j := by omega
      rw [hother k hkj] at hq
      exact newApart k q hkj hq
    · rw [hother j hji] at hj
      by_cases hki : k = i
      · subst hki
        rw [hget] at hq; cases hq
        exact apartE_symm (newApart j o hji hj)
      · rw [hother k hki] at hq
        exact h.apart j o hj k q hk hq
theorem insRev_perm {α : Type} (lt : α → α → Bool) : ∀ (l : List α) (x : α), (insRev lt l x).Perm (x :: l)
  | [], x => .refl _
  | y :: ys, x => by
    simp only [insRev]
    split
    · exact ((insRev_perm lt ys x).cons y).trans (.swap x y ys)
    · exact .refl _
theorem foldl_ins_perm {α : Type} (lt : α → α → Bool) : ∀ (l acc : List α), (l.foldl (insRev lt) acc).Perm (l ++ acc)
  | [], acc => .refl _
  | x :: l, acc => by
    rw [List.foldl_cons]
    refine (foldl_ins_perm lt l _).trans ?_
    refine (List.Perm.append_left l (insRev_perm lt acc x)).trans ?_
    exact List.perm_middle
theorem isort_perm {α : Type} (lt : α → α → Bool) (l : List α) : (isort lt l).Perm l := by
  unfold isort sortRev
  exact (List.reverse_perm _).trans (by simpa using foldl_ins_perm lt l [])
theorem isPl_iff {l : List Ed} {i : Nat} : isPl l i = true ↔ ∃ e, l[i]? = some e ∧ e.pl = true := by
  unfold isPl
  cases h : l[i]? with
  | none => simp
  | some e => simp
theorem plIx_mem {l : List Ed} {i : Nat} : i ∈ plIx l ↔ ∃ e, l[i]? = some e ∧ e.pl = true := by
  rw [plIx, List.mem_filter, List.mem_range, isPl_iff]
  exact ⟨fun h => h.2, fun h => ⟨(List.getElem?_eq_some_iff.1 h.choose_spec.1).1, h⟩⟩
theorem planGo_sound {t : Tp} : ∀ (r : List Nat) {es : List Ed} {sp : List Rg}, PInv t es sp → r.Nodup → (∀ i, i ∈ r → ∃ e, es[i]? = some e ∧ e.pl = true) → (∀ (i : Nat) e, es[i]? = some e → e.pl = true → i ∈ r) →
    ∀ es', planGo r es sp = some es' → ∃ sp', PInv t es' sp' ∧ ∀ e, e ∈ es' → e.pl = false
  | [], es, sp, h, _, _, hall, es', hp => by
    simp only [planGo, Option.some.injEq] at hp
    subst hp
    refine ⟨sp, h, fun e he => ?_⟩
    obtain ⟨i, hi⟩ := List.mem_iff_getElem?.1 he
    cases hb : e.pl with
    | false => rfl
    | true => have := hall i e hi hb; simp at this
  | i :: r, es, sp, h, hnd, hpl, hall, es', hp => by
    obtain ⟨hir, hnd⟩ := List.nodup_cons.1 hnd
    obtain ⟨e, hi, hepl⟩ := hpl i (by simp)
    simp only [planGo, hi] at hp
    cases ha : lowest sp (pz e.pf.bits) with
    | none => simp [ha] at hp
    | some a =>
      simp only [ha] at hp
      obtain ⟨h1, h2, _⟩ := h.step hi hepl ha
      have hother : ∀ j, j ≠ i → (setE es i a)[j]? = es[j]? := fun j hj => by rw [setE_at hi, List.getElem?_set_ne (Ne.symm hj)]
      refine planGo_sound r h1 hnd (fun j hj => ?_) (fun j o hj ho => ?_) es' hp
      · have hji : j ≠ i := fun e => hir (e ▸ hj)
        rw [hother j hji]
        exact hpl j (by simp [hj])
      · by_cases hji : j = i
        · subst hji; rw [h2] at hj; cases hj; cases ho
        · rw [hother j hji] at hj
          rcases List.mem_cons.1 (hall j o hj ho) with hh | hh
          · exact absurd hh hji
          · exact hh
theorem pinv_start {t : Tp} (ht : TopOk t) : PInv t t.edges (freeOf t.pools t.edges) := by
  have hfp : ∀ p, p ∈ t.pools → p.okP := fun p hp => by
    obtain ⟨i, hi⟩ := List.mem_iff_getElem?.1 hp
    exact (ht.pool i p hi).1
  have hfe : ∀ e, e ∈ t.edges → e.pf.okP := fun e hm => by
    obtain ⟨i, hi⟩ := List.mem_iff_getElem?.1 hm
    exact (ht.edge i e hi).1.2.2.2.2.2.1
  obtain ⟨h1, h2⟩ := freeOf_spec hfp hfe
  exact ⟨rfl, h1, h2, fun i e e0 h h0 => by rw [h] at h0; cases h0; exact .inl rfl, ht.apart, fun e he => okP_bits (hfe e he)⟩
theorem plan_sound {t : Tp} (ht : TopOk t) {es : List Ed} (hp : planOf t = some es) : ∃ sp, PInv t es sp ∧ ∀ e, e ∈ es → e.pl = false := by
  have hperm := isort_perm (ltB t) (plIx t.edges)
  have hnd : (plIx t.edges).Nodup := List.Nodup.sublist List.filter_sublist List.nodup_range
  refine planGo_sound _ (pinv_start ht) (hperm.nodup_iff.2 hnd) (fun i hi => plIx_mem.1 (hperm.mem_iff.1 hi)) (fun i e hi he => hperm.mem_iff.2 (plIx_mem.2 ⟨e, hi, he⟩)) es hp
theorem firstIx_map {α β : Type} (f : α → β) (p : β → Bool) : ∀ l : List α, firstIx (fun x => p (f x)) l = firstIx p (l.map f) := by
  intro l
  unfold firstIx
  rw [List.findIdx?_map]
  rfl
/-- what is planned is valid, and nothing else has changed -/
theorem plan_valid {t : Tp} (ht : TopOk t) {es : List Ed} (hp : planOf t = some es) : TopOk { t with edges := es } ∧ (∀ e, e ∈ es → e.pl = false) ∧ es.length = t.edges.length ∧
    ∀ (i : Nat) e e0, es[i]? = some e → t.edges[i]? = some e0 → (e0.pl = false ∧ e = e0) ∨ (e0.pl = true ∧ Served t e0 e) := by
  obtain ⟨sp, h, hpl⟩ := plan_sound ht hp
  have hat : ∀ (i : Nat) e e0, es[i]? = some e → t.edges[i]? = some e0 → (e0.pl = false ∧ e = e0) ∨ (e0.pl = true ∧ Served t e0 e) := by
    intro i e e0 hi h0
    rcases h.at_ i e e0 hi h0 with rfl | hh
    · exact .inl ⟨hpl e (List.mem_of_getElem? hi), rfl⟩
    · exact .inr hh
  have hname : es.map (fun e => e.name) = t.edges.map (fun e => e.name) := by
    apply List.ext_getElem?
    intro i
    rw [List.getElem?_map, List.getElem?_map]
    rcases Nat.lt_or_ge i es.length with hlt | hge
    · have h1 := List.getElem?_eq_getElem hlt
      have h2 := List.getElem?_eq_getElem (show i < t.edges.length by rw [← h.len]; exact hlt)
      rw [h1, h2]
      rcases hat i _ _ h1 h2 with ⟨_, he⟩ | ⟨_, a, _, _, _, he, _⟩
      · rw [he]
      · rw [he]; rfl
    · rw [List.getElem?_eq_none hge, List.getElem?_eq_none (by rw [← h.len]; exact hge)]
  have hix : ∀ n, edgeIx es n = edgeIx t.edges n := fun n => by
    rw [edgeIx, edgeIx, firstIx_map (fun e : Ed => e.name) (fun m => sEq m n), firstIx_map (fun e : Ed => e.name) (fun m => sEq m n), hname]
  refine ⟨⟨ht.d0, ht.d1, ht.l1, by rw [show ({ t with edges := es } : Tp).edges = es from rfl, h.len]; exact ht.e1, ht.p1, ht.t0, ht.t1, ht.dev, ht.link, fun i e hi => ?_, h.apart, ht.pool⟩, hpl, h.len, hat⟩
  have hi : es[i]? = some e := hi
  have hlt : i < t.edges.length := by rw [← h.len]; exact (List.getElem?_eq_some_iff.1 hi).1
  have h0 := List.getElem?_eq_getElem hlt
  obtain ⟨g1, g2⟩ := ht.edge i _ h0
  rcases hat i _ _ hi h0 with ⟨_, he⟩ | ⟨_, a, a0, a1, a2, he, _⟩
  · rw [he]
    exact ⟨g1, by show edgeIx es _ = _; rw [hix]; exact g2⟩
  · obtain ⟨k1, k2, k3, k4, k5, k6, k7⟩ := g1
    have hb := okP_bits k6
    have := pz_pos (t.edges[i]).pf.bits
    rw [he]
    refine ⟨⟨k1, k2, k3, k4, by rw [mkPf_bits]; exact k5, ⟨by rw [mkPf_bits]; exact hb.1, by rw [mkPf_bits]; exact hb.2, by rw [mkPf_bits, mkPf_addr a0 (by omega)]; exact a2⟩, .inl rfl⟩, ?_⟩
    show edgeIx es _ = _
    rw [hix]; exact g2
end Go.Proofs.YtgcplfplbcpemaaGreat

set_option linter.unusedVariables false
set_option linter.unusedSimpArgs false
set_option maxRecDepth 20000
set_option maxHeartbeats 4000000
namespace Go.Proofs.YtgcplfplbcpemaaGreat
open Go Go.Vm

theorem ext_below {α : Type} {a b : List α} {k : Nat} (h1 : a.length ≤ k) (h2 : a.length = b.length) (h : ∀ i, i < k → a[i]? = b[i]?) : a = b := by
  apply List.ext_getElem?
  intro i
  rcases Nat.lt_or_ge i k with hi | hi
  · exact h i hi
  · rw [List.getElem?_eq_none (by omega), List.getElem?_eq_none (by omega)]
/-- nsgref11.Same -/
theorem cuSame (t u : Tp) (ht : t.devs.length < 1000000 ∧ t.links.length < 1000000 ∧ t.edges.length < 1000000 ∧ t.pools.length < 1000000) {K : AV → List Vm.Obj → Prop} (hK : ∀ b, (b = true ↔ t = u) → K (.sb b) []) : ACall Tryz.prog 17 [encT t, encT u] [] K := by
  refine ACall.bool (ofuSame rfl rfl ?_)
  obtain ⟨t1, t2, t3, t4⟩ := ht
  (all_goals (repeat' ((conv => whnf); first | ((with_reducible refine sl_full ?ha ?_); (case ha => exact gA)) | ((with_reducible refine Ob.intro ?ha ?_); (case ha => exact gC)) | ((with_reducible refine br_lt ?_)) | ((with_reducible refine br_lf ?_)) | ((with_reducible refine br_pos ?ha ?_); (case ha => exact gB)) | ((with_reducible refine br_neg ?ha ?_); (case ha => exact gB)) | ((with_reducible refine br_t ?ha ?_); (case ha => with_reducible assumption)) | ((with_reducible refine br_f ?ha ?_); (case ha => with_reducible assumption)) | ((with_reducible refine br_dec (fun h => ?_) (fun h => ?_))) | ((with_reducible refine br_not ?_)) | ((with_reducible refine br_b (fun h => ?_) (fun h => ?_))) | ((with_reducible refine wr_i64 rfl ?ha ?hb ?_); (case ha => exact gB); (case hb => exact gB)) | ((with_reducible refine wr_u64 rfl ?ha ?hb ?_); (case ha => exact gB); (case hb => exact gB)) | ((with_reducible refine wr_u32 rfl ?ha ?hb ?_); (case ha => exact gB); (case hb => exact gB)) | ((with_reducible refine And.intro ?_ ?_)) | ((with_reducible refine True.intro)) | ((with_reducible refine Stp.go ?_))))); (all_goals (conv => whnf))
  all_goals first
    | (refine fin_f (hK false (iff_of_false (by simp) fun e => ?_)) rfl
       subst e
       omega)
    | skip
  obtain ⟨q1, q2, q3, q4, q5⟩ : t.devs.length = u.devs.length ∧ t.links.length = u.links.length ∧ t.edges.length = u.edges.length ∧ t.pools.length = u.pools.length ∧ t.tol = u.tol := by
    simp only [List.length_map] at *
    omega
  refine Lp.intro Nat (fun k => ⟨2, [(0, boxT t), (1, boxT u)], [(2, .op 0 0), (3, .op 1 0), (5, .v (.int .i64 k))]⟩)
    (fun k => k ≤ t.devs.length ∧ ∀ i, i < k → t.devs[i]? = u.devs[i]?) (fun k => t.devs.length - k) 0 ⟨Nat.zero_le _, fun i h => absurd h (Nat.not_lt_zero _)⟩ ?_ ?_
  · (refine Le.auto ?_; repeat' ((conv => whnf); first | with_reducible refine And.intro ?_ ?_ | with_reducible exact True.intro | rfl))
  intro k ⟨hk, hinv⟩
  rcases Nat.lt_or_ge k t.devs.length with hkl | hkl
  · obtain ⟨x, hx⟩ : ∃ x, t.devs[k]? = some x := ⟨_, List.getElem?_eq_getElem hkl⟩
    obtain ⟨y, hy⟩ : ∃ y, u.devs[k]? = some y := ⟨_, List.getElem?_eq_getElem (by omega)⟩
    have hkl2 : k < u.devs.length := by omega
    (all_goals (repeat' ((conv => whnf); first | (with_reducible refine in_map hkl ?_) | (with_reducible refine in_map hkl2 ?_) | (with_reducible refine ix_map hx ?_) | (with_reducible refine ix_map hy ?_) | (with_reducible refine eqv_D fun b hb => ?_) | ((with_reducible refine sl_full ?ha ?_); (case ha => exact gA)) | ((with_reducible refine Ob.intro ?ha ?_); (case ha => exact gC)) | ((with_reducible refine br_lt ?_)) | ((with_reducible refine br_lf ?_)) | ((with_reducible refine br_pos ?ha ?_); (case ha => exact gB)) | ((with_reducible refine br_neg ?ha ?_); (case ha => exact gB)) | ((with_reducible refine br_t ?ha ?_); (case ha => with_reducible assumption)) | ((with_reducible refine br_f ?ha ?_); (case ha => with_reducible assumption)) | ((with_reducible refine br_dec (fun h => ?_) (fun h => ?_))) | ((with_reducible refine br_not ?_)) | ((with_reducible refine br_b (fun h => ?_) (fun h => ?_))) | ((with_reducible refine wr_i64 rfl ?ha ?hb ?_); (case ha => exact gB); (case hb => exact gB)) | ((with_reducible refine wr_u64 rfl ?ha ?hb ?_); (case ha => exact gB); (case hb => exact gB)) | ((with_reducible refine wr_u32 rfl ?ha ?hb ?_); (case ha => exact gB); (case hb => exact gB)) | ((with_reducible refine And.intro ?_ ?_)) | ((with_reducible refine True.intro)) | ((with_reducible refine Stp.go ?_))))); (all_goals (conv => whnf))
    · refine ⟨k + 1, ⟨by omega, fun i hi => ?_⟩, by omega, ?_⟩
      · rcases Nat.lt_or_ge i k with h1 | h1
        · exact hinv i h1
        · rw [show i = k by omega, hx, hy, hb.1 h]
      · (refine Le.auto ?_; repeat' ((conv => whnf); first | with_reducible refine And.intro ?_ ?_ | with_reducible exact True.intro | rfl))
    · refine fin_f (hK false (iff_of_false (by simp) fun e => ?_)) rfl
      subst e
      rw [hx] at hy; cases hy
      have hbt := hb.2 rfl
      subst hbt
      contradiction
  have e0 := ext_below (by omega) (by omega) hinv
  (all_goals (repeat' ((conv => whnf); first | ((with_reducible refine sl_full ?ha ?_); (case ha => exact gA)) | ((with_reducible refine Ob.intro ?ha ?_); (case ha => exact gC)) | ((with_reducible refine br_lt ?_)) | ((with_reducible refine br_lf ?_)) | ((with_reducible refine br_pos ?ha ?_); (case ha => exact gB)) | ((with_reducible refine br_neg ?ha ?_); (case ha => exact gB)) | ((with_reducible refine br_t ?ha ?_); (case ha => with_reducible assumption)) | ((with_reducible refine br_f ?ha ?_); (case ha => with_reducible assumption)) | ((with_reducible refine br_dec (fun h => ?_) (fun h => ?_))) | ((with_reducible refine br_not ?_)) | ((with_reducible refine br_b (fun h => ?_) (fun h => ?_))) | ((with_reducible refine wr_i64 rfl ?ha ?hb ?_); (case ha => exact gB); (case hb => exact gB)) | ((with_reducible refine wr_u64 rfl ?ha ?hb ?_); (case ha => exact gB); (case hb => exact gB)) | ((with_reducible refine wr_u32 rfl ?ha ?hb ?_); (case ha => exact gB); (case hb => exact gB)) | ((with_reducible refine And.intro ?_ ?_)) | ((with_reducible refine True.intro)) | ((with_reducible refine Stp.go ?_))))); (all_goals (conv => whnf))
  refine Lp.intro Nat (fun k => ⟨2, [(0, boxT t), (1, boxT u)], [(2, .op 0 0), (3, .op 1 0), (6, .v (.int .i64 k))]⟩)
    (fun k => k ≤ t.links.length ∧ ∀ i, i < k → t.links[i]? = u.links[i]?) (fun k => t.links.length - k) 0 ⟨Nat.zero_le _, fun i h => absurd h (Nat.not_lt_zero _)⟩ ?_ ?_
  · (refine Le.auto ?_; repeat' ((conv => whnf); first | with_reducible refine And.intro ?_ ?_ | with_reducible exact True.intro | rfl))
  intro k ⟨hk, hinv⟩
  rcases Nat.lt_or_ge k t.links.length with hkl | hkl
  · obtain ⟨x, hx⟩ : ∃ x, t.links[k]? = some x := ⟨_, List.getElem?_eq_getElem hkl⟩
    obtain ⟨y, hy⟩ : ∃ y, u.links[k]? = some y := ⟨_, List.getElem?_eq_getElem (by omega)⟩
    have hkl2 : k < u.links.length := by omega
    (all_goals (repeat' ((conv => whnf); first | (with_reducible refine in_map hkl ?_) | (with_reducible refine in_map hkl2 ?_) | (with_reducible refine ix_map hx ?_) | (with_reducible refine ix_map hy ?_) | (with_reducible refine eqv_L fun b hb => ?_) | ((with_reducible refine sl_full ?ha ?_); (case ha => exact gA)) | ((with_reducible refine Ob.intro ?ha ?_); (case ha => exact gC)) | ((with_reducible refine br_lt ?_)) | ((with_reducible refine br_lf ?_)) | ((with_reducible refine br_pos ?ha ?_); (case ha => exact gB)) | ((with_reducible refine br_neg ?ha ?_); (case ha => exact gB)) | ((with_reducible refine br_t ?ha ?_); (case ha => with_reducible assumption)) | ((with_reducible refine br_f ?ha ?_); (case ha => with_reducible assumption)) | ((with_reducible refine br_dec (fun h => ?_) (fun h => ?_))) | ((with_reducible refine br_not ?_)) | ((with_reducible refine br_b (fun h => ?_) (fun h => ?_))) | ((with_reducible refine wr_i64 rfl ?ha ?hb ?_); (case ha => exact gB); (case hb => exact gB)) | ((with_reducible refine wr_u64 rfl ?ha ?hb ?_); (case ha => exact gB); (case hb => exact gB)) | ((with_reducible refine wr_u32 rfl ?ha ?hb ?_); (case ha => exact gB); (case hb => exact gB)) | ((with_reducible refine And.intro ?_ ?_)) | ((with_reducible refine True.intro)) | ((with_reducible refine Stp.go ?_))))); (all_goals (conv => whnf))
    · refine ⟨k + 1, ⟨by omega, fun i hi => ?_⟩, by omega, ?_⟩
      · rcases Nat.lt_or_ge i k with h1 | h1
        · exact hinv i h1
        · rw [show i = k by omega, hx, hy, hb.1 h]
      · (refine Le.auto ?_; repeat' ((conv => whnf); first | with_reducible refine And.intro ?_ ?_ | with_reducible exact True.intro | rfl))
    · refine fin_f (hK false (iff_of_false (by simp) fun e => ?_)) rfl
      subst e
      rw [hx] at hy; cases hy
      have hbt := hb.2 rfl
      subst hbt
      contradiction
  have e1 := ext_below (by omega) (by omega) hinv
  (all_goals (repeat' ((conv => whnf); first | ((with_reducible refine sl_full ?ha ?_); (case ha => exact gA)) | ((with_reducible refine Ob.intro ?ha ?_); (case ha => exact gC)) | ((with_reducible refine br_lt ?_)) | ((with_reducible refine br_lf ?_)) | ((with_reducible refine br_pos ?ha ?_); (case ha => exact gB)) | ((with_reducible refine br_neg ?ha ?_); (case ha => exact gB)) | ((with_reducible refine br_t ?ha ?_); (case ha => with_reducible assumption)) | ((with_reducible refine br_f ?ha ?_); (case ha => with_reducible assumption)) | ((with_reducible refine br_dec (fun h => ?_) (fun h => ?_))) | ((with_reducible refine br_not ?_)) | ((with_reducible refine br_b (fun h => ?_) (fun h => ?_))) | ((with_reducible refine wr_i64 rfl ?ha ?hb ?_); (case ha => exact gB); (case hb => exact gB)) | ((with_reducible refine wr_u64 rfl ?ha ?hb ?_); (case ha => exact gB); (case hb => exact gB)) | ((with_reducible refine wr_u32 rfl ?ha ?hb ?_); (case ha => exact gB); (case hb => exact gB)) | ((with_reducible refine And.intro ?_ ?_)) | ((with_reducible refine True.intro)) | ((with_reducible refine Stp.go ?_))))); (all_goals (conv => whnf))
  refine Lp.intro Nat (fun k => ⟨2, [(0, boxT t), (1, boxT u)], [(2, .op 0 0), (3, .op 1 0), (7, .v (.int .i64 k))]⟩)
    (fun k => k ≤ t.edges.length ∧ ∀ i, i < k → t.edges[i]? = u.edges[i]?) (fun k => t.edges.length - k) 0 ⟨Nat.zero_le _, fun i h => absurd h (Nat.not_lt_zero _)⟩ ?_ ?_
  · (refine Le.auto ?_; repeat' ((conv => whnf); first | with_reducible refine And.intro ?_ ?_ | with_reducible exact True.intro | rfl))
  intro k ⟨hk, hinv⟩
  rcases Nat.lt_or_ge k t.edges.length with hkl | hkl
  · obtain ⟨x, hx⟩ : ∃ x, t.edges[k]? = some x := ⟨_, List.getElem?_eq_getElem hkl⟩
    obtain ⟨y, hy⟩ : ∃ y, u.edges[k]? = some y := ⟨_, List.getElem?_eq_getElem (by omega)⟩
    have hkl2 : k < u.edges.length := by omega
    (all_goals (repeat' ((conv => whnf); first | (with_reducible refine in_map hkl ?_) | (with_reducible refine in_map hkl2 ?_) | (with_reducible refine ix_map hx ?_) | (with_reducible refine ix_map hy ?_) | (with_reducible refine eqv_E fun b hb => ?_) | ((with_reducible refine sl_full ?ha ?_); (case ha => exact gA)) | ((with_reducible refine Ob.intro ?ha ?_); (case ha => exact gC)) | ((with_reducible refine br_lt ?_)) | ((with_reducible refine br_lf ?_)) | ((with_reducible refine br_pos ?ha ?_); (case ha => exact gB)) | ((with_reducible refine br_neg ?ha ?_); (case ha => exact gB)) | ((with_reducible refine br_t ?ha ?_); (case ha => with_reducible assumption)) | ((with_reducible refine br_f ?ha ?_); (case ha => with_reducible assumption)) | ((with_reducible refine br_dec (fun h => ?_) (fun h => ?_))) | ((with_reducible refine br_not ?_)) | ((with_reducible refine br_b (fun h => ?_) (fun h => ?_))) | ((with_reducible refine wr_i64 rfl ?ha ?hb ?_); (case ha => exact gB); (case hb => exact gB)) | ((with_reducible refine wr_u64 rfl ?ha ?hb ?_); (case ha => exact gB); (case hb => exact gB)) | ((with_reducible refine wr_u32 rfl ?ha ?hb ?_); (case ha => exact gB); (case hb => exact gB)) | ((with_reducible refine And.intro ?_ ?_)) | ((with_reducible refine True.intro)) | ((with_reducible refine Stp.go ?_))))); (all_goals (conv => whnf))
    · refine ⟨k + 1, ⟨by omega, fun i hi => ?_⟩, by omega, ?_⟩
      · rcases Nat.lt_or_ge i k with h1 | h1
        · exact hinv i h1
        · rw [show i = k by omega, hx, hy, hb.1 h]
      · (refine Le.auto ?_; repeat' ((conv => whnf); first | with_reducible refine And.intro ?_ ?_ | with_reducible exact True.intro | rfl))
    · refine fin_f (hK false (iff_of_false (by simp) fun e => ?_)) rfl
      subst e
      rw [hx] at hy; cases hy
      have hbt := hb.2 rfl
      subst hbt
      contradiction
  have e2 := ext_below (by omega) (by omega) hinv
  (all_goals (repeat' ((conv => whnf); first | ((with_reducible refine sl_full ?ha ?_); (case ha => exact gA)) | ((with_reducible refine Ob.intro ?ha ?_); (case ha => exact gC)) | ((with_reducible refine br_lt ?_)) | ((with_reducible refine br_lf ?_)) | ((with_reducible refine br_pos ?ha ?_); (case ha => exact gB)) | ((with_reducible refine br_neg ?ha ?_); (case ha => exact gB)) | ((with_reducible refine br_t ?ha ?_); (case ha => with_reducible assumption)) | ((with_reducible refine br_f ?ha ?_); (case ha => with_reducible assumption)) | ((with_reducible refine br_dec (fun h => ?_) (fun h => ?_))) | ((with_reducible refine br_not ?_)) | ((with_reducible refine br_b (fun h => ?_) (fun h => ?_))) | ((with_reducible refine wr_i64 rfl ?ha ?hb ?_); (case ha => exact gB); (case hb => exact gB)) | ((with_reducible refine wr_u64 rfl ?ha ?hb ?_); (case ha => exact gB); (case hb => exact gB)) | ((with_reducible refine wr_u32 rfl ?ha ?hb ?_); (case ha => exact gB); (case hb => exact gB)) | ((with_reducible refine And.intro ?_ ?_)) | ((with_reducible refine True.intro)) | ((with_reducible refine Stp.go ?_))))); (all_goals (conv => whnf))
  refine Lp.intro Nat (fun k => ⟨2, [(0, boxT t), (1, boxT u)], [(2, .op 0 0), (3, .op 1 0), (8, .v (.int .i64 k))]⟩)
    (fun k => k ≤ t.pools.length ∧ ∀ i, i < k → t.pools[i]? = u.pools[i]?) (fun k => t.pools.length - k) 0 ⟨Nat.zero_le _, fun i h => absurd h (Nat.not_lt_zero _)⟩ ?_ ?_
  · (refine Le.auto ?_; repeat' ((conv => whnf); first | with_reducible refine And.intro ?_ ?_ | with_reducible exact True.intro | rfl))
  intro k ⟨hk, hinv⟩
  rcases Nat.lt_or_ge k t.pools.length with hkl | hkl
  · obtain ⟨x, hx⟩ : ∃ x, t.pools[k]? = some x := ⟨_, List.getElem?_eq_getElem hkl⟩
    obtain ⟨y, hy⟩ : ∃ y, u.pools[k]? = some y := ⟨_, List.getElem?_eq_getElem (by omega)⟩
    have hkl2 : k < u.pools.length := by omega
    (all_goals (repeat' ((conv => whnf); first | (with_reducible refine in_map hkl ?_) | (with_reducible refine in_map hkl2 ?_) | (with_reducible refine ix_map hx ?_) | (with_reducible refine ix_map hy ?_) | (with_reducible refine eqv_P fun b hb => ?_) | ((with_reducible refine sl_full ?ha ?_); (case ha => exact gA)) | ((with_reducible refine Ob.intro ?ha ?_); (case ha => exact gC)) | ((with_reducible refine br_lt ?_)) | ((with_reducible refine br_lf ?_)) | ((with_reducible refine br_pos ?ha ?_); (case ha => exact gB)) | ((with_reducible refine br_neg ?ha ?_); (case ha => exact gB)) | ((with_reducible refine br_t ?ha ?_); (case ha => with_reducible assumption)) | ((with_reducible refine br_f ?ha ?_); (case ha => with_reducible assumption)) | ((with_reducible refine br_dec (fun h => ?_) (fun h => ?_))) | ((with_reducible refine br_not ?_)) | ((with_reducible refine br_b (fun h => ?_) (fun h => ?_))) | ((with_reducible refine wr_i64 rfl ?ha ?hb ?_); (case ha => exact gB); (case hb => exact gB)) | ((with_reducible refine wr_u64 rfl ?ha ?hb ?_); (case ha => exact gB); (case hb => exact gB)) | ((with_reducible refine wr_u32 rfl ?ha ?hb ?_); (case ha => exact gB); (case hb => exact gB)) | ((with_reducible refine And.intro ?_ ?_)) | ((with_reducible refine True.intro)) | ((with_reducible refine Stp.go ?_))))); (all_goals (conv => whnf))
    · refine ⟨k + 1, ⟨by omega, fun i hi => ?_⟩, by omega, ?_⟩
      · rcases Nat.lt_or_ge i k with h1 | h1
        · exact hinv i h1
        · rw [show i = k by omega, hx, hy, hb.1 h]
      · (refine Le.auto ?_; repeat' ((conv => whnf); first | with_reducible refine And.intro ?_ ?_ | with_reducible exact True.intro | rfl))
    · refine fin_f (hK false (iff_of_false (by simp) fun e => ?_)) rfl
      subst e
      rw [hx] at hy; cases hy
      have hbt := hb.2 rfl
      subst hbt
      contradiction
  have e3 := ext_below (by omega) (by omega) hinv
  (all_goals (repeat' ((conv => whnf); first | ((with_reducible refine sl_full ?ha ?_); (case ha => exact gA)) | ((with_reducible refine Ob.intro ?ha ?_); (case ha => exact gC)) | ((with_reducible refine br_lt ?_)) | ((with_reducible refine br_lf ?_)) | ((with_reducible refine br_pos ?ha ?_); (case ha => exact gB)) | ((with_reducible refine br_neg ?ha ?_); (case ha => exact gB)) | ((with_reducible refine br_t ?ha ?_); (case ha => with_reducible assumption)) | ((with_reducible refine br_f ?ha ?_); (case ha => with_reducible assumption)) | ((with_reducible refine br_dec (fun h => ?_) (fun h => ?_))) | ((with_reducible refine br_not ?_)) | ((with_reducible refine br_b (fun h => ?_) (fun h => ?_))) | ((with_reducible refine wr_i64 rfl ?ha ?hb ?_); (case ha => exact gB); (case hb => exact gB)) | ((with_reducible refine wr_u64 rfl ?ha ?hb ?_); (case ha => exact gB); (case hb => exact gB)) | ((with_reducible refine wr_u32 rfl ?ha ?hb ?_); (case ha => exact gB); (case hb => exact gB)) | ((with_reducible refine And.intro ?_ ?_)) | ((with_reducible refine True.intro)) | ((with_reducible refine Stp.go ?_))))); (all_goals (conv => whnf))
  refine fin_t (hK true (iff_of_true rfl ?_)) rfl
  cases t; cases u
  simp only [Tp.mk.injEq]
  exact ⟨e0, e1, e2, e3, q5⟩
end Go.Proofs.YtgcplfplbcpemaaGreat

set_option linter.unusedVariables false
set_option linter.unusedSimpArgs false
set_option maxRecDepth 20000
set_option maxHeartbeats 4000000
namespace Go.Proofs.YtgcplfplbcpemaaGreat
open Go Go.Vm

/-- nsggen.CopyTopology -/
theorem cnCopy (t : Tp) (ht : t.devs.length < 1000000 ∧ t.links.length < 1000000 ∧ t.edges.length < 1000000 ∧ t.pools.length < 1000000) {K : AV → List Vm.Obj → Prop}
    (hK : K (.agg [.os 0 5 0 t.devs.length, .os 1 3 0 t.links.length, .os 2 6 0 t.edges.length, .os 3 2 0 t.pools.length, .v (.int .i64 t.tol)]) [.arr 5 (t.devs.map encD), .arr 3 (t.links.map encL), .arr 6 (t.edges.map encE), .arr 2 (t.pools.map encP)]) :
    ACall Tryz.prog 13 [encT t] [] K := by
  obtain ⟨t1, t2, t3, t4⟩ := ht
  refine ofnCopy rfl rfl ?_
  (all_goals (repeat' ((conv => whnf); first | ((with_reducible refine sl_full ?ha ?_); (case ha => exact gA)) | ((with_reducible refine Ob.intro ?ha ?_); (case ha => exact gC)) | ((with_reducible refine br_lt ?_)) | ((with_reducible refine br_lf ?_)) | ((with_reducible refine br_pos ?ha ?_); (case ha => exact gB)) | ((with_reducible refine br_neg ?ha ?_); (case ha => exact gB)) | ((with_reducible refine br_t ?ha ?_); (case ha => with_reducible assumption)) | ((with_reducible refine br_f ?ha ?_); (case ha => with_reducible assumption)) | ((with_reducible refine br_dec (fun h => ?_) (fun h => ?_))) | ((with_reducible refine br_not ?_)) | ((with_reducible refine br_b (fun h => ?_) (fun h => ?_))) | ((with_reducible refine wr_i64 rfl ?ha ?hb ?_); (case ha => exact gB); (case hb => exact gB)) | ((with_reducible refine wr_u64 rfl ?ha ?hb ?_); (case ha => exact gB); (case hb => exact gB)) | ((with_reducible refine wr_u32 rfl ?ha ?hb ?_); (case ha => exact gB); (case hb => exact gB)) | ((with_reducible refine And.intro ?_ ?_)) | ((with_reducible refine True.intro)) | ((with_reducible refine Stp.go ?_))))); (all_goals (conv => whnf))
  simp only [Nat.zero_add, List.length_map, List.nil_append]
  exact hK
end Go.Proofs.YtgcplfplbcpemaaGreat

set_option linter.unusedVariables false
set_option linter.unusedSimpArgs false
set_option maxRecDepth 20000
namespace Go.Proofs.YtgcplfplbcpemaaGreat
open Go Go.Vm

/-- one block ahead of another one, and they cannot be joined -/
def RB (b c : Nat × Nat) : Prop := b.1 + 2 ^ b.2 ≤ c.1 ∧ (b.2 = c.2 → b.1 / 2 ^ (b.2 + 1) ≠ c.1 / 2 ^ (b.2 + 1))
theorem same_block {a b k : Nat} (ha : a % 2 ^ k = 0) (hb : b % 2 ^ k = 0) (h1 : a + 2 ^ k ≤ b) (h : a / 2 ^ (k + 1) = b / 2 ^ (k + 1)) : b = a + 2 ^ k ∧ a % 2 ^ (k + 1) = 0 := by
  have hp := Nat.two_pow_pos k
  rw [Nat.pow_succ] at *
  generalize 2 ^ k = s at *
  have e1 := Nat.div_add_mod a (s * 2)
  have e2 := Nat.div_add_mod b (s * 2)
  have l1 := Nat.mod_lt a (show s * 2 > 0 by omega)
  have l2 := Nat.mod_lt b (show s * 2 > 0 by omega)
  rw [h] at e1
  have m1 : (a % (s * 2)) % s = 0 := by rw [Nat.mod_mul_right_mod]; exact ha
  have m2 : (b % (s * 2)) % s = 0 := by rw [Nat.mod_mul_right_mod]; exact hb
  have key : ∀ r, r < s * 2 → r % s = 0 → r = 0 ∨ r = s := by
    intro r hr hm
    rcases Nat.lt_or_ge r s with h | h
    · rw [Nat.mod_eq_of_lt h] at hm; exact .inl hm
    · right
      have : r = s + (r - s) := by omega
      rw [this, Nat.add_mod_left, Nat.mod_eq_of_lt (by omega)] at hm
      omega
  rcases key _ l1 m1 with h3 | h3 <;> rcases key _ l2 m2 with h4 | h4 <;> omega
theorem blks_pw : ∀ (f lo e : Nat), e ≤ 4294967296 → (blks f lo e).Pairwise RB
  | 0, _, _, _ => by simp [blks]
  | f + 1, lo, e, he => by
    rw [blks]
    split
    · rename_i hlt
      obtain ⟨s1, s2, s3⟩ := blkK_spec lo (e - lo) (by omega) 32
      refine List.pairwise_cons.2 ⟨fun c hc => ?_, blks_pw f _ e he⟩
      obtain ⟨c1, c2, c3, c4⟩ := blks_mem f _ e c hc
      refine ⟨c1, fun hk hj => ?_⟩
      simp only at hk hj c1
      rw [← hk] at c3 c4
      obtain ⟨q1, q2⟩ := same_block s2 c3 c1 hj
      have hle : lo + 2 ^ (blkK lo (e - lo) 32 + 1) ≤ e := by rw [Nat.pow_succ]; omega
      have hk1 : blkK lo (e - lo) 32 + 1 ≤ 32 := by
        rcases Nat.lt_or_ge 32 (blkK lo (e - lo) 32 + 1) with h | h
        · exfalso
          have := Nat.pow_le_pow_right (n := 2) (by omega) (show 33 ≤ blkK lo (e - lo) 32 + 1 by omega)
          omega
        · exact h
      have := blkK_max lo (e - lo) 32 _ hk1 q2 (by omega)
      omega
    · exact List.Pairwise.nil
def blkAll (sp : List Rg) : List (Nat × Nat) := sp.flatMap fun r => blksOf r.lo.toNat (r.hi.toNat + 1)
def mkB (b : Nat × Nat) : Pf := mkPf b.1 (32 - (b.2 : Int))
theorem split_all (sp : List Rg) : sp.flatMap splitR = (blkAll sp).map mkB := by
  rw [blkAll, List.map_flatMap]; rfl
theorem blkAll_mem {sp : List Rg} {b : Nat × Nat} (h : b ∈ blkAll sp) : ∃ r, r ∈ sp ∧ r.lo ≤ (b.1 : Int) ∧ b.2 ≤ 32 ∧ b.1 % 2 ^ b.2 = 0 ∧ ((b.1 + 2 ^ b.2 : Nat) : Int) ≤ r.hi + 1 := by
  obtain ⟨r, hr, hb⟩ := List.mem_flatMap.1 h
  obtain ⟨h1, h2, h3, h4⟩ := blks_mem _ _ _ b hb
  have := r.l0; have := r.h0
  exact ⟨r, hr, by omega, h2, h3, by omega⟩
theorem blkAll_pw : ∀ {sp : List Rg}, Canon sp → (blkAll sp).Pairwise RB
  | [], _ => by simp [blkAll]
  | r :: sp, hc => by
    have h1 := r.h1; have h0 := r.h0; have l0 := r.l0
    obtain ⟨p1, p2⟩ := List.pairwise_cons.1 hc.2
    have hc2 : Canon sp := ⟨fun s hs => hc.1 s (by simp [hs]), p2⟩
    have e : blkAll (r :: sp) = blksOf r.lo.toNat (r.hi.toNat + 1) ++ blkAll sp := by simp [blkAll]
    rw [e, List.pairwise_append]
    refine ⟨blks_pw _ _ _ (by omega), blkAll_pw hc2, fun b hb c hcm => ?_⟩
    obtain ⟨b1, b2, b3, b4⟩ := blks_mem _ _ _ b hb
    obtain ⟨s, hs, s1, s2, s3, s4⟩ := blkAll_mem hcm
    have := p1 s hs
    refine ⟨by omega, fun hk hj => ?_⟩
    rw [← hk] at s3
    obtain ⟨q1, _⟩ := same_block b3 s3 (by omega) hj
    omega
end Go.Proofs.YtgcplfplbcpemaaGreat

set_option linter.unusedVariables false
set_option linter.unusedSimpArgs false
set_option maxRecDepth 20000
set_option maxHeartbeats 4000000
namespace Go.Proofs.YtgcplfplbcpemaaGreat
open Go Go.Vm

/-- (*Tape).Addr -/
theorem cnAddr (raw : List Int) (pos : Nat) (hp : pos ≤ raw.length) (hr : raw.length ≤ 9223372036854775807) {K : AV → List Vm.Obj → Prop}
    (hK : ∀ (a : Int) (pos' : Nat), 0 ≤ a → a ≤ 4294967295 → pos' ≤ raw.length → K (.v (.int .u32 a)) [tapeO raw pos']) : ACall Tryz.prog 42 [.op 0 0] [tapeO raw pos] K := by
  refine ofnAddr rfl rfl ?_
  (all_goals (repeat' ((conv => whnf); first | (with_reducible refine nNext raw _ _ (by omega) (by assumption) hr fun m1 p1 hm1 hp1 => ?_) | (with_reducible refine in_nat (by omega) ?_) | (with_reducible refine cnSub _ (by omega) ?_) | (with_reducible refine crOf _ ?_) | (with_reducible refine wr_u32_any fun r r0 r1 => ?_) | ((with_reducible refine sl_full ?ha ?_); (case ha => exact gA)) | ((with_reducible refine Ob.intro ?ha ?_); (case ha => exact gC)) | ((with_reducible refine br_lt ?_)) | ((with_reducible refine br_lf ?_)) | ((with_reducible refine br_pos ?ha ?_); (case ha => exact gB)) | ((with_reducible refine br_neg ?ha ?_); (case ha => exact gB)) | ((with_reducible refine br_t ?ha ?_); (case ha => with_reducible assumption)) | ((with_reducible refine br_f ?ha ?_); (case ha => with_reducible assumption)) | ((with_reducible refine br_dec (fun h => ?_) (fun h => ?_))) | ((with_reducible refine br_not ?_)) | ((with_reducible refine br_b (fun h => ?_) (fun h => ?_))) | ((with_reducible refine wr_i64 rfl ?ha ?hb ?_); (case ha => exact gB); (case hb => exact gB)) | ((with_reducible refine wr_u64 rfl ?ha ?hb ?_); (case ha => exact gB); (case hb => exact gB)) | ((with_reducible refine wr_u32 rfl ?ha ?hb ?_); (case ha => exact gB); (case hb => exact gB)) | ((with_reducible refine And.intro ?_ ?_)) | ((with_reducible refine True.intro)) | ((with_reducible refine Stp.go ?_))))); (all_goals (conv => whnf))
  all_goals refine ix_all IsU32 ?_ (by simp only [List.length_cons, List.length_nil]; omega) ?_
  all_goals first
    | (rintro _ ⟨y, rfl, y0, y1⟩
       (all_goals (repeat' ((conv => whnf); first | ((with_reducible refine sl_full ?ha ?_); (case ha => exact gA)) | ((with_reducible refine Ob.intro ?ha ?_); (case ha => exact gC)) | ((with_reducible refine br_lt ?_)) | ((with_reducible refine br_lf ?_)) | ((with_reducible refine br_pos ?ha ?_); (case ha => exact gB)) | ((with_reducible refine br_neg ?ha ?_); (case ha => exact gB)) | ((with_reducible refine br_t ?ha ?_); (case ha => with_reducible assumption)) | ((with_reducible refine br_f ?ha ?_); (case ha => with_reducible assumption)) | ((with_reducible refine br_dec (fun h => ?_) (fun h => ?_))) | ((with_reducible refine br_not ?_)) | ((with_reducible refine br_b (fun h => ?_) (fun h => ?_))) | ((with_reducible refine wr_i64 rfl ?ha ?hb ?_); (case ha => exact gB); (case hb => exact gB)) | ((with_reducible refine wr_u64 rfl ?ha ?hb ?_); (case ha => exact gB); (case hb => exact gB)) | ((with_reducible refine wr_u32 rfl ?ha ?hb ?_); (case ha => exact gB); (case hb => exact gB)) | ((with_reducible refine And.intro ?_ ?_)) | ((with_reducible refine True.intro)) | ((with_reducible refine Stp.go ?_))))); (all_goals (conv => whnf))
       exact hK y _ y0 y1 (by assumption))
    | (simp only [List.forall_mem_cons]
       (repeat' apply And.intro) <;> first | exact ⟨_, rfl, by assumption, by assumption⟩ | exact ⟨_, rfl, Rg.l0 _, Rg.l1 _⟩ | exact ⟨_, rfl, Rg.h0 _, Rg.h1 _⟩ | exact ⟨_, rfl, by decide, by decide⟩ | (intro _ h; cases h))
theorem asc_len {N : Nat} : ∀ (l : List (Nat × Nat)) (lo : Nat), (∀ b, b ∈ l → lo ≤ b.1 ∧ b.1 < N) → l.Pairwise RB → l.length ≤ N - lo
  | [], lo, _, _ => Nat.zero_le _
  | b :: t, lo, h, hp => by
    obtain ⟨p1, p2⟩ := List.pairwise_cons.1 hp
    have hb := h b (by simp)
    have := asc_len (N := N) t (b.1 + 1) (fun c hc => by
      have := (p1 c hc).1
      have := Nat.two_pow_pos b.2
      have := h c (by simp [hc])
      omega) p2
    simp only [List.length_cons]
    omega
theorem free_len {sp : List Rg} (hc : Canon sp) : (sp.flatMap splitR).length ≤ 4294967296 := by
  rw [split_all, List.length_map]
  exact asc_len (N := 4294967296) _ 0 (fun b hb => by
    obtain ⟨r, _, h1, _, _, h4⟩ := blkAll_mem hb
    have := r.h1; have := Nat.two_pow_pos b.2
    omega) (blkAll_pw hc)
end Go.Proofs.YtgcplfplbcpemaaGreat

