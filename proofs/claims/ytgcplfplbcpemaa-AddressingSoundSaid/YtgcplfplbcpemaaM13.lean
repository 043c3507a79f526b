/- The functions of the seat as the machine takes them: contexts, bodies, contracts out of the code. Printed by gsctx.py. Plans: the plain law. Topologies compared and copied. AddressingSound: its contract. A plan is complete, changes nothing but the planned prefixes, gives each of them its size within a pool, and never an address twice: the statement AddressingSoundSaid holds, for every input, without a condition. -/
import Derived.Test.YtgcplfplbcpemaaProg
import Derived.Test.YtgcplfplbcpemaaM11
set_option linter.unusedVariables false
set_option maxRecDepth 20000
namespace Go.Proofs.Ytgcplfplbcpemaa
open Go Go.Vm

/-- netsegment/nsgref11.Same -/
noncomputable def guSame : Ctx := { N := 122, np := 0, own := fun _ => false, plan := fun i => match Nat.beq i 6 with | true => some (lin [(0, true), (1, true), (2, true), (3, true), (4, true), (5, true), (6, true), (7, true), (8, true), (9, true), (10, true)]) | false => match Nat.beq i 11 with | true => some (lin [(0, true), (1, true), (2, true), (3, true), (4, true), (5, true), (6, true), (7, true), (8, true), (9, true), (10, true)]) | false => match Nat.beq i 16 with | true => some (lin [(0, true), (1, true), (2, true), (3, true), (4, true), (5, true), (6, true), (7, true), (8, true), (9, true), (10, true)]) | false => match Nat.beq i 21 with | true => some (lin [(0, true), (1, true), (2, true), (3, true), (4, true), (5, true), (6, true), (7, true), (8, true), (9, true), (10, true)]) | false => none, hints := fun _ => [], cut := fun _ => false }
noncomputable def buSame : Code := match Try.f14.body with | some c => c | none => .skip
theorem ofuSame {args : List AV} {hs : List Vm.Obj} {K : AV → List Vm.Obj → Prop} (hp : Nat.beq guSame.np hs.length = true) (ha : Nat.ble args.length 122 = true) (hq : initQ hs args fun σ => codeQ Try.prog guSame buSame σ (retQ Try.prog guSame Try.f14.results.toList K)) : ACall Try.prog 14 args hs K :=
  ACall.of_code (Γ := guSame) Try.func14 (by kernel_rfl) (by kernel_rfl) (by kernel_rfl) (by kernel_rfl) (Nat.eq_of_beq_eq_true hp) ha hq
/-- netsegment/nsgref11.Complete -/
noncomputable def guComp : Ctx := { N := 14, np := 0, own := fun _ => false, plan := fun i => match Nat.beq i 1 with | true => some (lin [(0, true), (1, false), (2, true), (3, true), (6, true), (7, true), (8, true), (4, false), (5, true), (9, true), (10, true), (11, true)]) | false => none, hints := fun _ => [], cut := fun _ => false }
noncomputable def buComp : Code := match Try.f15.body with | some c => c | none => .skip
theorem ofuComp {args : List AV} {hs : List Vm.Obj} {K : AV → List Vm.Obj → Prop} (hp : Nat.beq guComp.np hs.length = true) (ha : Nat.ble args.length 14 = true) (hq : initQ hs args fun σ => codeQ Try.prog guComp buComp σ (retQ Try.prog guComp Try.f15.results.toList K)) : ACall Try.prog 15 args hs K :=
  ACall.of_code (Γ := guComp) Try.func15 (by kernel_rfl) (by kernel_rfl) (by kernel_rfl) (by kernel_rfl) (Nat.eq_of_beq_eq_true hp) ha hq
/-- netsegment/nsgref11.At -/
noncomputable def guAt : Ctx := { N := 31, np := 0, own := fun _ => false, plan := fun _ => none, hints := fun _ => [], cut := fun _ => false }
noncomputable def buAt : Code := match Try.f21.body with | some c => c | none => .skip
theorem ofuAt {args : List AV} {hs : List Vm.Obj} {K : AV → List Vm.Obj → Prop} (hp : Nat.beq guAt.np hs.length = true) (ha : Nat.ble args.length 31 = true) (hq : initQ hs args fun σ => codeQ Try.prog guAt buAt σ (retQ Try.prog guAt Try.f21.results.toList K)) : ACall Try.prog 21 args hs K :=
  ACall.of_code (Γ := guAt) Try.func21 (by kernel_rfl) (by kernel_rfl) (by kernel_rfl) (by kernel_rfl) (Nat.eq_of_beq_eq_true hp) ha hq
/-- netsegment/nsggen.CopyTopology -/
noncomputable def gnCopy : Ctx := { N := 24, np := 0, own := fun _ => false, plan := fun _ => none, hints := fun _ => [], cut := fun _ => false, res := true }
noncomputable def bnCopy : Code := match Try.f16.body with | some c => c | none => .skip
theorem ofnCopy {args : List AV} {hs : List Vm.Obj} {K : AV → List Vm.Obj → Prop} (hp : Nat.beq gnCopy.np hs.length = true) (ha : Nat.ble args.length 24 = true) (hq : initQ hs args fun σ => codeQ Try.prog gnCopy bnCopy σ (retQ Try.prog gnCopy Try.f16.results.toList K)) : ACall Try.prog 16 args hs K :=
  ACall.of_code (Γ := gnCopy) Try.func16 (by kernel_rfl) (by kernel_rfl) (by kernel_rfl) (by kernel_rfl) (Nat.eq_of_beq_eq_true hp) ha hq
/-- (*netsegment/nsggen.Tape).Addr -/
noncomputable def gnAddr : Ctx := { N := 40, np := 1, own := fun i => match Nat.beq i 8 with | true => true | false => false, plan := fun i => match Nat.beq i 5 with | true => some (.one 0 true (.one 2 true (.one 4 true (.one 7 true (.one 10 true (.one 14 true (.wch 1 (.wch 3 (.wch 5 (.one 6 true (.wch 8 (.one 9 true (.wch 11 (.one 12 true (.alt 13 (.one 15 false (.one 16 true (.one 17 true (.one 18 true (.done))))) (.alt 15 (.one 13 false (.one 16 true (.one 17 true (.one 18 true (.done))))) (.stop))))))))))))))))) | false => none, hints := fun _ => [], cut := fun _ => false }
noncomputable def bnAddr : Code := match Try.f19.body with | some c => c | none => .skip
theorem ofnAddr {args : List AV} {hs : List Vm.Obj} {K : AV → List Vm.Obj → Prop} (hp : Nat.beq gnAddr.np hs.length = true) (ha : Nat.ble args.length 40 = true) (hq : initQ hs args fun σ => codeQ Try.prog gnAddr bnAddr σ (retQ Try.prog gnAddr Try.f19.results.toList K)) : ACall Try.prog 19 args hs K :=
  ACall.of_code (Γ := gnAddr) Try.func19 (by kernel_rfl) (by kernel_rfl) (by kernel_rfl) (by kernel_rfl) (Nat.eq_of_beq_eq_true hp) ha hq
/-- netsegment/nsgref1.Common -/
noncomputable def grCommon : Ctx := { N := 27, np := 0, own := fun _ => false, plan := fun i => match Nat.beq i 4 with | true => some (.one 0 true (.one 1 true (.one 2 true (.one 5 true (.one 9 true (.alt 3 (.one 4 true (.alt 6 (.one 7 true (.one 8 true (.one 10 true (.one 11 false (.one 12 false (.done)))))) (.alt 11 (.one 6 false (.one 7 true (.one 8 true (.one 10 true (.one 12 false (.done)))))) (.stop)))) (.alt 11 (.one 3 false (.one 4 true (.one 6 false (.one 7 true (.one 8 true (.one 10 true (.one 12 false (.done)))))))) (.stop)))))))) | false => none, hints := fun _ => [], cut := fun _ => false }
noncomputable def brCommon : Code := match Try.f23.body with | some c => c | none => .skip
theorem ofrCommon {args : List AV} {hs : List Vm.Obj} {K : AV → List Vm.Obj → Prop} (hp : Nat.beq grCommon.np hs.length = true) (ha : Nat.ble args.length 27 = true) (hq : initQ hs args fun σ => codeQ Try.prog grCommon brCommon σ (retQ Try.prog grCommon Try.f23.results.toList K)) : ACall Try.prog 23 args hs K :=
  ACall.of_code (Γ := grCommon) Try.func23 (by kernel_rfl) (by kernel_rfl) (by kernel_rfl) (by kernel_rfl) (Nat.eq_of_beq_eq_true hp) ha hq
/-- netsegment/nsglaw12.AddressingSound -/
noncomputable def glSound : Ctx := { N := 111, np := 0, own := fun i => match Nat.beq i 6 with | true => true | false => match Nat.beq i 9 with | true => true | false => match Nat.beq i 16 with | true => true | false => false, plan := fun i => match Nat.beq i 18 with | true => some (lin [(0, true), (1, true), (2, true), (3, true), (4, true), (5, true), (6, true), (7, true), (8, false), (9, true), (10, true)]) | false => match Nat.beq i 19 with | true => some (lin [(0, true), (1, true), (2, true), (3, true), (4, true), (5, true), (6, true), (7, true), (8, true), (9, true), (10, true), (11, true), (12, true), (13, true)]) | false => match Nat.beq i 21 with | true => some (.one 0 true (.one 1 true (.one 2 true (.one 3 true (.one 5 true (.one 6 true (.one 7 true (.one 8 true (.alt 4 (.one 9 false (.one 10 true (.one 11 true (.one 12 false (.done))))) (.alt 9 (.one 4 true (.one 10 true (.one 11 true (.one 12 false (.done))))) (.stop))))))))))) | false => none, hints := fun _ => [], cut := fun _ => false }
noncomputable def blSound : Code := match Try.f4.body with | some c => c | none => .skip
theorem oflSound {args : List AV} {hs : List Vm.Obj} {K : AV → List Vm.Obj → Prop} (hp : Nat.beq glSound.np hs.length = true) (ha : Nat.ble args.length 111 = true) (hq : initQ hs args fun σ => codeQ Try.prog glSound blSound σ (retQ Try.prog glSound Try.f4.results.toList K)) : ACall Try.prog 4 args hs K :=
  ACall.of_code (Γ := glSound) Try.func4 (by kernel_rfl) (by kernel_rfl) (by kernel_rfl) (by kernel_rfl) (Nat.eq_of_beq_eq_true hp) ha hq
/-- netsegment/nsglaw12.AddressingFree -/
noncomputable def glFree : Ctx := { N := 160, np := 0, own := fun i => match Nat.beq i 6 with | true => true | false => match Nat.beq i 8 with | true => true | false => match Nat.beq i 9 with | true => true | false => match Nat.beq i 19 with | true => true | false => false, plan := fun i => match Nat.beq i 12 with | true => some (lin [(0, true), (1, true), (2, true), (3, true), (4, true), (5, true), (6, true), (7, true), (8, true), (9, true), (10, true), (11, false), (12, true), (13, true)]) | false => match Nat.beq i 16 with | true => some (lin [(0, true), (1, true), (2, true), (3, true), (4, true), (5, true), (6, true), (7, true), (8, false)]) | false => match Nat.beq i 18 with | true => some (lin [(0, true), (1, true), (2, true), (3, true), (4, true), (5, true), (6, true), (7, true), (8, true), (9, true), (10, true), (11, true), (12, false), (13, true), (14, true), (15, true), (16, true)]) | false => match Nat.beq i 23 with | true => some (lin [(0, true), (1, true), (2, true), (3, true), (4, false), (5, true), (6, true), (7, true), (8, true), (9, true), (10, true), (11, true), (12, true), (13, true), (14, true), (15, true), (16, true), (17, true), (18, true), (19, true), (20, true), (21, true), (22, true), (23, true)]) | false => match Nat.beq i 25 with | true => some (lin [(0, true), (1, true), (2, true), (3, true), (4, true), (5, true), (6, true), (7, true), (8, true), (9, true), (10, true), (11, true), (12, true), (13, true), (14, true), (15, true)]) | false => match Nat.beq i 26 with | true => some (.one 0 true (.one 1 true (.one 2 true (.one 3 true (.one 4 true (.one 5 true (.one 6 true (.one 7 true (.one 8 true (.one 9 true (.one 10 true (.alt 11 (.one 12 false (.one 13 false (.done))) (.alt 12 (.one 11 false (.one 13 false (.done))) (.stop)))))))))))))) | false => match Nat.beq i 27 with | true => some (lin [(0, true), (1, true), (2, true), (3, true), (4, true), (5, true), (6, true), (7, true), (8, true)]) | false => none, hints := fun _ => [], cut := fun _ => false }
noncomputable def blFree : Code := match Try.f5.body with | some c => c | none => .skip
theorem oflFree {args : List AV} {hs : List Vm.Obj} {K : AV → List Vm.Obj → Prop} (hp : Nat.beq glFree.np hs.length = true) (ha : Nat.ble args.length 160 = true) (hq : initQ hs args fun σ => codeQ Try.prog glFree blFree σ (retQ Try.prog glFree Try.f5.results.toList K)) : ACall Try.prog 5 args hs K :=
  ACall.of_code (Γ := glFree) Try.func5 (by kernel_rfl) (by kernel_rfl) (by kernel_rfl) (by kernel_rfl) (Nat.eq_of_beq_eq_true hp) ha hq

end Go.Proofs.Ytgcplfplbcpemaa

set_option linter.unusedVariables false
set_option linter.unusedSimpArgs false
set_option maxRecDepth 20000
namespace Go.Proofs.Ytgcplfplbcpemaa
open Go Go.Vm

/-- a difference of sets is a list of ranges -/
theorem sub_exists (a b : List Rg) : ∃ l, Canon l ∧ ∀ v, has l v = (has a v && !has b v) := by
  have inv := starts_inv (a ++ b) (top := 4294967295) (by decide)
  obtain ⟨r0, hr0⟩ := inv.zero
  have hseg : ∀ s, s ∈ segs 4294967295 (starts (a ++ b) 4294967295) → ∀ v, s.1 ≤ v → v ≤ s.2 → (fun v => has a v && !has b v) v = (fun v => has a v && !has b v) s.1 := by
    intro s hs v h1 h2
    simp only
    rw [has_const (by decide) (fun r hr => List.mem_append.2 (.inl hr)) hs h1 h2, has_const (by decide) (fun r hr => List.mem_append.2 (.inr hr)) hs h1 h2]
  have hsort := inv.sorted
  have hrange := inv.range
  rw [hr0] at hseg hsort hrange
  have hk := fold_inv (f := fun v => has a v && !has b v) (top := 4294967295) (by decide) r0 0 [] ⟨⟨fun r hr => by simp at hr, by simp⟩, fun v => by
    rw [Bool.eq_iff_iff]
    simp only [has, List.any_nil, Bool.false_eq_true, Bool.and_eq_true, decide_eq_true_eq, false_iff]
    omega, fun r hr => by simp at hr⟩ hsort hrange hseg
  refine ⟨_, hk.canon, fun v => ?_⟩
  rw [hk.mem]
  cases h : (has a v && !has b v) with
  | false => simp
  | true =>
    simp only [Bool.and_eq_true] at h
    obtain ⟨r, hr, h1, h2⟩ := has_iff.1 h.1
    have := r.l0; have := r.h1
    simp only [Bool.and_true, Bool.and_eq_true, decide_eq_true_eq]
    omega
theorem canonOf_spec {f : Int → Bool} (h : ∃ l, Canon l ∧ ∀ v, has l v = f v) : Canon (canonOf f) ∧ ∀ v, has (canonOf f) v = f v := by
  obtain ⟨l, h1, h2⟩ := h
  rw [canonOf_eq h1 h2]
  exact ⟨h1, h2⟩
theorem freeOf_spec {pools : List Pf} {edges : List Ed} (hp : ∀ p, p ∈ pools → p.okP) (he : ∀ e, e ∈ edges → e.pf.okP) : Canon (freeOf pools edges) ∧ ∀ v, has (freeOf pools edges) v = ((pools.any fun p => p.has v) && !((fixed edges).any fun p => p.has v)) := by
  refine canonOf_spec ?_
  obtain ⟨l, h1, h2⟩ := sub_exists (pools.map Pf.rg) ((fixed edges).map Pf.rg)
  refine ⟨l, h1, fun v => ?_⟩
  rw [h2, rg_has hp, rg_has fun p hp => by
    obtain ⟨e, h1, rfl⟩ := List.mem_map.1 hp
    exact he e (List.mem_filter.1 h1).1]
theorem cutOf_spec (sp : List Rg) {a n : Int} (h0 : 0 ≤ a) (hn : 0 < n) (h1 : a + n - 1 ≤ 4294967295) : Canon (cutOf sp a n) ∧ ∀ v, has (cutOf sp a n) v = (has sp v && !(decide (a ≤ v) && decide (v ≤ a + n - 1))) := by
  refine canonOf_spec ?_
  obtain ⟨l, q1, q2⟩ := sub_exists sp [mkR a (a + n - 1)]
  refine ⟨l, q1, fun v => ?_⟩
  rw [q2, has_one, mkR_lo h0 (by omega) (by omega) h1, mkR_hi h0 (by omega) (by omega) h1]
theorem low_mod {lo n : Int} (hn : 0 < n) : ((lo + n - 1) / n * n) % n = 0 := by rw [Int.mul_emod_left]
theorem lowest_in {sp : List Rg} {n a : Int} (hn : 0 < n) (h : lowest sp n = some a) : ∃ r, r ∈ sp ∧ r.lo ≤ a ∧ a + n - 1 ≤ r.hi ∧ a % n = 0 := by
  obtain ⟨r, hr, h1⟩ := List.exists_of_findSome?_eq_some h
  unfold lowIn at h1
  split at h1
  · rename_i hle
    cases h1
    exact ⟨r, hr, (low_ge hn).1, hle, low_mod hn⟩
  · cases h1
/-- no block of that size starts lower -/
theorem lowest_min {sp : List Rg} {n a : Int} (hc : Canon sp) (hn : 0 < n) (h : lowest sp n = some a) {b : Int} (hb : b % n = 0) (hin : ∀ v, b ≤ v → v ≤ b + n - 1 → has sp v = true) : a ≤ b := by
  rcases Int.lt_or_le b a with hlt | hle
  case inr => exact hle
  exfalso
  rw [lowest, List.findSome?_eq_some_iff] at h
  obtain ⟨l1, r, l2, hsp, h1, h2⟩ := h
  -- the range in which b lies
  obtain ⟨s, hs, s1, s2⟩ := has_iff.1 (hin b (Int.le_refl _) (by omega))
  have send : b + n - 1 ≤ s.hi := by
    rcases Int.lt_or_le s.hi (b + n - 1) with hx | hx
    · obtain ⟨s', hs', t1, t2⟩ := has_iff.1 (hin (s.hi + 1) (by omega) (by omega))
      exfalso
      have hpw := hc.2
      have key : ∀ {l : List Rg}, (l.Pairwise fun r s => r.hi + 1 < s.lo) → s ∈ l → s' ∈ l → (∀ r, r ∈ l → r.lo ≤ r.hi) → False := by
        intro l
        induction l with
        | nil => intro _ h; cases h
        | cons x l ih =>
          intro hp m1 m2 hv
          obtain ⟨p1, p2⟩ := List.pairwise_cons.1 hp
          rcases List.mem_cons.1 m1 with rfl | n1
          · rcases List.mem_cons.1 m2 with h' | n2
            · rw [h'] at t1 t2; omega
            · have := p1 s' n2; omega
          · rcases List.mem_cons.1 m2 with h' | n2
            · have := p1 s n1
              have := hv s (by simp [n1])
              rw [h'] at t1 t2
              omega
            · exact ih p2 n1 n2 (fun r hr => hv r (by simp [hr]))
      exact key hpw hs hs' hc.1
    · exact hx
  have fits : ∀ r : Rg, r.lo ≤ b → b + n - 1 ≤ r.hi → ∃ a', lowIn n r = some a' ∧ a' ≤ b := by
    intro r q1 q2
    have g := low_ge (r := r) hn
    have hm := low_mod (lo := r.lo) hn
    have hle : (r.lo + n - 1) / n * n ≤ b := by
      rcases Int.lt_or_le b ((r.lo + n - 1) / n * n) with hx | hx
      · have d1 : n ∣ ((r.lo + n - 1) / n * n - b) := Int.dvd_sub (Int.dvd_of_emod_eq_zero hm) (Int.dvd_of_emod_eq_zero hb)
        have := Int.le_of_dvd (by omega) d1
        omega
      · exact hx
    exact ⟨_, by rw [lowIn, if_pos (by omega)], hle⟩
  obtain ⟨a', ha', hab⟩ := fits s s1 send
  rw [hsp] at hs hc
  rcases List.mem_append.1 hs with hs | hs
  · rw [h2 s hs] at ha'; cases ha'
  · rcases List.mem_cons.1 hs with rfl | hs
    · rw [h1] at ha'; cases ha'; omega
    · have hpw := (List.pairwise_append.1 hc.2).2.1
      have hx := (List.pairwise_cons.1 hpw).1 s hs
      have hr := hc.1 r (by simp)
      unfold lowIn at h1
      split at h1
      · cases h1; omega
      · cases h1

theorem fixed_any {l : List Ed} {v : Int} : ((fixed l).any fun p => p.has v) = true ↔ ∃ (i : Nat) (e : Ed), l[i]? = some e ∧ e.pl = false ∧ e.pf.has v = true := by
  rw [List.any_eq_true]
  constructor
  · rintro ⟨p, hp, hv⟩
    obtain ⟨e, h1, rfl⟩ := List.mem_map.1 hp
    obtain ⟨h1, h2⟩ := List.mem_filter.1 h1
    obtain ⟨i, hi⟩ := List.mem_iff_getElem?.1 h1
    exact ⟨i, e, hi, by simpa using h2, hv⟩
  · rintro ⟨i, e, hi, h1, hv⟩
    exact ⟨e.pf, List.mem_map_of_mem (List.mem_filter.2 ⟨List.mem_of_getElem? hi, by simp [h1]⟩), hv⟩
theorem meet_common {p q : Pf} (h : p.meet q = true) : ∃ v, p.has v = true ∧ q.has v = true := by
  unfold Pf.meet at h
  simp only [Bool.or_eq_true] at h
  rcases h with h | h
  · obtain ⟨h1, h2, h3⟩ := cov_iff.1 h
    have := pz_pos q.bits
    exact ⟨q.addr, h3, has_iffP.2 ⟨h1, Int.le_refl _, by omega⟩⟩
  · obtain ⟨h1, h2, h3⟩ := cov_iff.1 h
    have := pz_pos p.bits
    exact ⟨p.addr, has_iffP.2 ⟨h1, Int.le_refl _, by omega⟩, h3⟩

/-- what a served edge has become -/
def Served (t : Tp) (e0 e : Ed) : Prop := ∃ a, 0 ≤ a ∧ a + pz e0.pf.bits - 1 ≤ 4294967295 ∧ a % pz e0.pf.bits = 0 ∧ e = { e0 with pf := mkPf a e0.pf.bits, pl := false } ∧ ∀ v, a ≤ v → v ≤ a + pz e0.pf.bits - 1 → (t.pools.any fun p => p.has v) = true
structure PInv (t : Tp) (es : List Ed) (sp : List Rg) : Prop where
  len : es.length = t.edges.length
  can : Canon sp
  mem : ∀ v, has sp v = ((t.pools.any fun p => p.has v) && !((fixed es).any fun p => p.has v))
  at_ : ∀ (i : Nat) e e0, es[i]? = some e → t.edges[i]? = some e0 → e = e0 ∨ (e0.pl = true ∧ Served t e0 e)
  apart : ∀ (i : Nat) e, es[i]? = some e → ∀ (j : Nat) o, j < i → es[j]? = some o → apartE e o
  bits : ∀ e, e ∈ es → 0 ≤ e.pf.bits ∧ e.pf.bits ≤ 32
theorem apartE_symm {e o : Ed} (h : apartE e o) : apartE o e := by
  rintro ⟨h1, h2, h3⟩
  refine h ⟨h2, h1, ?_⟩
  unfold Pf.meet at h3 ⊢
  rw [Bool.or_comm]; exact h3
theorem has_mkPf {a b v : Int} (h0 : 0 ≤ a) (h1 : a + pz b - 1 ≤ 4294967295) (hb0 : 0 ≤ b) (hb1 : b ≤ 32) (hm : a % pz b = 0) : (mkPf a b).has v = true ↔ a ≤ v ∧ v ≤ a + pz b - 1 := by
  have := pz_pos b
  rw [has_iffP, mkPf_bits, mkPf_addr h0 (by omega)]
  refine ⟨fun h => h.2, fun h => ⟨⟨?_, ?_, ?_⟩, h⟩⟩
  · rw [mkPf_bits]; exact hb0
  · rw [mkPf_bits]; exact hb1
  · rw [mkPf_bits, mkPf_addr h0 (by omega)]; exact hm
theorem PInv.step {t : Tp} {es : List Ed} {sp : List Rg} (h : PInv t es sp) {i : Nat} {e : Ed} {a : Int} (hi : es[i]? = some e) (hpl : e.pl = true) (ha : lowest sp (pz e.pf.bits) = some a) :
    PInv t (setE es i a) (cutOf sp a (pz e.pf.bits)) ∧ (setE es i a)[i]? = some { e with pf := mkPf a e.pf.bits, pl := false } ∧ (0 ≤ a ∧ a + pz e.pf.bits - 1 ≤ 4294967295 ∧ a % pz e.pf.bits = 0) := by
  have hn := pz_pos e.pf.bits
  obtain ⟨hb0, hb1⟩ := h.bits e (List.mem_of_getElem? hi)
  obtain ⟨r, hr, r1, r2, r3⟩ := lowest_in hn ha
  have a0 : 0 ≤ a := by have := r.l0; omega
  have a1 : a + pz e.pf.bits - 1 ≤ 4294967295 := by have := r.h1; omega
  obtain ⟨c1, c2⟩ := cutOf_spec sp a0 hn a1
  have hin : ∀ v, a ≤ v → v ≤ a + pz e.pf.bits - 1 → has sp v = true := fun v v1 v2 => has_iff.2 ⟨r, hr, by omega, by omega⟩
  have hilt := (List.getElem?_eq_some_iff.1 hi).1
  have hset : setE es i a = es.set i { e with pf := mkPf a e.pf.bits, pl := false } := setE_at hi a
  have hget : (setE es i a)[i]? = some { e with pf := mkPf a e.pf.bits, pl := false } := by rw [hset, List.getElem?_set_self hilt]
  have hother : ∀ j, j ≠ i → (setE es i a)[j]? = es[j]? := fun j hj => by rw [hset, List.getElem?_set_ne (Ne.symm hj)]
  have hnew : ∀ v, (mkPf a e.pf.bits).has v = true ↔ a ≤ v ∧ v ≤ a + pz e.pf.bits - 1 := fun v => has_mkPf a0 a1 hb0 hb1 r3
  have hfix : ∀ v, ((fixed (setE es i a)).any fun p => p.has v) = (((fixed es).any fun p => p.has v) || (decide (a ≤ v) && decide (v ≤ a + pz e.pf.bits - 1))) := by
    intro v
    rw [Bool.eq_iff_iff, fixed_any, Bool.or_eq_true, fixed_any, Bool.and_eq_true, decide_eq_true_eq, decide_eq_true_eq, ← hnew]
    constructor
    · rintro ⟨j, o, hj, h1, h2⟩
      by_cases hji : j = i
      · subst hji; rw [hget] at hj; cases hj; exact .inr h2
      · rw [hother j hji] at hj; exact .inl ⟨j, o, hj, h1, h2⟩
    · rintro (⟨j, o, hj, h1, h2⟩ | h2)
      · by_cases hji : j = i
        · subst hji; rw [hi] at hj; cases hj; rw [hpl] at h1; cases h1
        · exact ⟨j, o, by rw [hother j hji]; exact hj, h1, h2⟩
      · exact ⟨i, _, hget, rfl, h2⟩
  refine ⟨⟨by rw [setE_length]; exact h.len, c1, fun v => ?_, fun j o o0 hj h0 => ?_, fun j o hj k q hk hq => ?_, setE_bits h.bits⟩, hget, a0, a1, r3⟩
  · rw [c2, h.mem, hfix]
    cases (t.pools.any fun p => p.has v) <;> cases ((fixed es).any fun p => p.has v) <;> cases (decide (a ≤ v) && decide (v ≤ a + pz e.pf.bits - 1)) <;> rfl
  · by_cases hji : j = i
    · subst hji
      rw [hget] at hj; cases hj
      rcases h.at_ j e o0 hi h0 with rfl | ⟨_, hs⟩
      · refine .inr ⟨hpl, a, a0, a1, r3, rfl, fun v v1 v2 => ?_⟩
        have := hin v v1 v2
        rw [h.mem] at this
        simp only [Bool.and_eq_true] at this
        exact this.1
      · obtain ⟨_, _, _, _, he, _⟩ := hs
        rw [he] at hpl; cases hpl
    · rw [hother j hji] at hj; exact h.at_ j o o0 hj h0
  · -- the new one is apart from the others
    have newApart : ∀ (j : Nat) o, j ≠ i → es[j]? = some o → apartE { e with pf := mkPf a e.pf.bits, pl := false } o := by
      rintro j o hji hj ⟨_, h1, h2⟩
      obtain ⟨v, v1, v2⟩ := meet_common h2
      have hv := (hnew v).1 v1
      have := hin v hv.1 hv.2
      rw [h.mem] at this
      simp only [Bool.and_eq_true, Bool.not_eq_true'] at this
      have hf := fixed_any.2 ⟨j, o, hj, h1, v2⟩
      rw [this.2] at hf; cases hf
    by_cases hji : j = i
    · subst hji
      rw [hget] at hj; cases hj
      have hkj : k ≠ j := by omega
      rw [hother k hkj] at hq
      exact newApart k q hkj hq
    · rw [hother j hji] at hj
      by_cases hki : k = i
      · subst hki
        rw [hget] at hq; cases hq
        exact apartE_symm (newApart j o hji hj)
      · rw [hother k hki] at hq
        exact h.apart j o hj k q hk hq
theorem insRev_perm {α : Type} (lt : α → α → Bool) : ∀ (l : List α) (x : α), (insRev lt l x).Perm (x :: l)
  | [], x => .refl _
  | y :: ys, x => by
    simp only [insRev]
    split
    · exact ((insRev_perm lt ys x).cons y).trans (.swap x y ys)
    · exact .refl _
theorem foldl_ins_perm {α : Type} (lt : α → α → Bool) : ∀ (l acc : List α), (l.foldl (insRev lt) acc).Perm (l ++ acc)
  | [], acc => .refl _
  | x :: l, acc => by
    rw [List.foldl_cons]
    refine (foldl_ins_perm lt l _).trans ?_
    refine (List.Perm.append_left l (insRev_perm lt acc x)).trans ?_
    exact List.perm_middle
theorem isort_perm {α : Type} (lt : α → α → Bool) (l : List α) : (isort lt l).Perm l := by
  unfold isort sortRev
  exact (List.reverse_perm _).trans (by simpa using foldl_ins_perm lt l [])
theorem isPl_iff {l : List Ed} {i : Nat} : isPl l i = true ↔ ∃ e, l[i]? = some e ∧ e.pl = true := by
  unfold isPl
  cases h : l[i]? with
  | none => simp
  | some e => simp
theorem plIx_mem {l : List Ed} {i : Nat} : i ∈ plIx l ↔ ∃ e, l[i]? = some e ∧ e.pl = true := by
  rw [plIx, List.mem_filter, List.mem_range, isPl_iff]
  exact ⟨fun h => h.2, fun h => ⟨(List.getElem?_eq_some_iff.1 h.choose_spec.1).1, h⟩⟩
theorem planGo_sound {t : Tp} : ∀ (r : List Nat) {es : List Ed} {sp : List Rg}, PInv t es sp → r.Nodup → (∀ i, i ∈ r → ∃ e, es[i]? = some e ∧ e.pl = true) → (∀ (i : Nat) e, es[i]? = some e → e.pl = true → i ∈ r) →
    ∀ es', planGo r es sp = some es' → ∃ sp', PInv t es' sp' ∧ ∀ e, e ∈ es' → e.pl = false
  | [], es, sp, h, _, _, hall, es', hp => by
    simp only [planGo, Option.some.injEq] at hp
    subst hp
    refine ⟨sp, h, fun e he => ?_⟩
    obtain ⟨i, hi⟩ := List.mem_iff_getElem?.1 he
    cases hb : e.pl with
    | false => rfl
    | true => have := hall i e hi hb; simp at this
  | i :: r, es, sp, h, hnd, hpl, hall, es', hp => by
    obtain ⟨hir, hnd⟩ := List.nodup_cons.1 hnd
    obtain ⟨e, hi, hepl⟩ := hpl i (by simp)
    simp only [planGo, hi] at hp
    cases ha : lowest sp (pz e.pf.bits) with
    | none => simp [ha] at hp
    | some a =>
      simp only [ha] at hp
      obtain ⟨h1, h2, _⟩ := h.step hi hepl ha
      have hother : ∀ j, j ≠ i → (setE es i a)[j]? = es[j]? := fun j hj => by rw [setE_at hi, List.getElem?_set_ne (Ne.symm hj)]
      refine planGo_sound r h1 hnd (fun j hj => ?_) (fun j o hj ho => ?_) es' hp
      · have hji : j ≠ i := fun e => hir (e ▸ hj)
        rw [hother j hji]
        exact hpl j (by simp [hj])
      · by_cases hji : j = i
        · subst hji; rw [h2] at hj; cases hj; cases ho
        · rw [hother j hji] at hj
          rcases List.mem_cons.1 (hall j o hj ho) with hh | hh
          · exact absurd hh hji
          · exact hh
theorem pinv_start {t : Tp} (ht : TopOk t) : PInv t t.edges (freeOf t.pools t.edges) := by
  have hfp : ∀ p, p ∈ t.pools → p.okP := fun p hp => by
    obtain ⟨i, hi⟩ := List.mem_iff_getElem?.1 hp
    exact (ht.pool i p hi).1
  have hfe : ∀ e, e ∈ t.edges → e.pf.okP := fun e hm => by
    obtain ⟨i, hi⟩ := List.mem_iff_getElem?.1 hm
    exact (ht.edge i e hi).1.2.2.2.2.2.1
  obtain ⟨h1, h2⟩ := freeOf_spec hfp hfe
  exact ⟨rfl, h1, h2, fun i e e0 h h0 => by rw [h] at h0; cases h0; exact .inl rfl, ht.apart, fun e he => okP_bits (hfe e he)⟩
theorem plan_sound {t : Tp} (ht : TopOk t) {es : List Ed} (hp : planOf t = some es) : ∃ sp, PInv t es sp ∧ ∀ e, e ∈ es → e.pl = false := by
  have hperm := isort_perm (ltB t) (plIx t.edges)
  have hnd : (plIx t.edges).Nodup := List.Nodup.sublist List.filter_sublist List.nodup_range
  refine planGo_sound _ (pinv_start ht) (hperm.nodup_iff.2 hnd) (fun i hi => plIx_mem.1 (hperm.mem_iff.1 hi)) (fun i e hi he => hperm.mem_iff.2 (plIx_mem.2 ⟨e, hi, he⟩)) es hp
theorem firstIx_map {α β : Type} (f : α → β) (p : β → Bool) : ∀ l : List α, firstIx (fun x => p (f x)) l = firstIx p (l.map f) := by
  intro l
  unfold firstIx
  rw [List.findIdx?_map]
  rfl
/-- what is planned is valid, and nothing else has changed -/
theorem plan_valid {t : Tp} (ht : TopOk t) {es : List Ed} (hp : planOf t = some es) : TopOk { t with edges := es } ∧ (∀ e, e ∈ es → e.pl = false) ∧ es.length = t.edges.length ∧
    ∀ (i : Nat) e e0, es[i]? = some e → t.edges[i]? = some e0 → (e0.pl = false ∧ e = e0) ∨ (e0.pl = true ∧ Served t e0 e) := by
  obtain ⟨sp, h, hpl⟩ := plan_sound ht hp
  have hat : ∀ (i : Nat) e e0, es[i]? = some e → t.edges[i]? = some e0 → (e0.pl = false ∧ e = e0) ∨ (e0.pl = true ∧ Served t e0 e) := by
    intro i e e0 hi h0
    rcases h.at_ i e e0 hi h0 with rfl | hh
    · exact .inl ⟨hpl e (List.mem_of_getElem? hi), rfl⟩
    · exact .inr hh
  have hname : es.map (fun e => e.name) = t.edges.map (fun e => e.name) := by
    apply List.ext_getElem?
    intro i
    rw [List.getElem?_map, List.getElem?_map]
    rcases Nat.lt_or_ge i es.length with hlt | hge
    · have h1 := List.getElem?_eq_getElem hlt
      have h2 := List.getElem?_eq_getElem (show i < t.edges.length by rw [← h.len]; exact hlt)
      rw [h1, h2]
      rcases hat i _ _ h1 h2 with ⟨_, he⟩ | ⟨_, a, _, _, _, he, _⟩
      · rw [he]
      · rw [he]; rfl
    · rw [List.getElem?_eq_none hge, List.getElem?_eq_none (by rw [← h.len]; exact hge)]
  have hix : ∀ n, edgeIx es n = edgeIx t.edges n := fun n => by
    rw [edgeIx, edgeIx, firstIx_map (fun e : Ed => e.name) (fun m => sEq m n), firstIx_map (fun e : Ed => e.name) (fun m => sEq m n), hname]
  refine ⟨⟨ht.d0, ht.d1, ht.l1, by rw [show ({ t with edges := es } : Tp).edges = es from rfl, h.len]; exact ht.e1, ht.p1, ht.t0, ht.t1, ht.dev, ht.link, fun i e hi => ?_, h.apart, ht.pool⟩, hpl, h.len, hat⟩
  have hi : es[i]? = some e := hi
  have hlt : i < t.edges.length := by rw [← h.len]; exact (List.getElem?_eq_some_iff.1 hi).1
  have h0 := List.getElem?_eq_getElem hlt
  obtain ⟨g1, g2⟩ := ht.edge i _ h0
  rcases hat i _ _ hi h0 with ⟨_, he⟩ | ⟨_, a, a0, a1, a2, he, _⟩
  · rw [he]
    exact ⟨g1, by show edgeIx es _ = _; rw [hix]; exact g2⟩
  · obtain ⟨k1, k2, k3, k4, k5, k6, k7⟩ := g1
    have hb := okP_bits k6
    have := pz_pos (t.edges[i]).pf.bits
    rw [he]
    refine ⟨⟨k1, k2, k3, k4, by rw [mkPf_bits]; exact k5, ⟨by rw [mkPf_bits]; exact hb.1, by rw [mkPf_bits]; exact hb.2, by rw [mkPf_bits, mkPf_addr a0 (by omega)]; exact a2⟩, .inl rfl⟩, ?_⟩
    show edgeIx es _ = _
    rw [hix]; exact g2
end Go.Proofs.Ytgcplfplbcpemaa

set_option linter.unusedVariables false
set_option linter.unusedSimpArgs false
set_option maxRecDepth 20000
set_option maxHeartbeats 4000000
namespace Go.Proofs.Ytgcplfplbcpemaa
open Go Go.Vm

theorem ext_below {α : Type} {a b : List α} {k : Nat} (h1 : a.length ≤ k) (h2 : a.length = b.length) (h : ∀ i, i < k → a[i]? = b[i]?) : a = b := by
  apply List.ext_getElem?
  intro i
  rcases Nat.lt_or_ge i k with hi | hi
  · exact h i hi
  · rw [List.getElem?_eq_none (by omega), List.getElem?_eq_none (by omega)]
/-- nsgref11.Same -/
theorem cuSame (t u : Tp) (ht : t.devs.length < 1000000 ∧ t.links.length < 1000000 ∧ t.edges.length < 1000000 ∧ t.pools.length < 1000000) {K : AV → List Vm.Obj → Prop} (hK : ∀ b, (b = true ↔ t = u) → K (.sb b) []) : ACall Try.prog 14 [encT t, encT u] [] K := by
  refine ACall.bool (ofuSame rfl rfl ?_)
  obtain ⟨t1, t2, t3, t4⟩ := ht
  (all_goals (repeat' ((conv => whnf); first | ((with_reducible refine sl_full ?ha ?_); (case ha => (first | with_reducible exact Nat.le_refl _ | with_reducible rfl | omega | (simp only [List.length_append, List.length_map, List.length_take, List.length_drop, List.length_cons, List.length_nil, List.length_set]; done) | (simp only [List.length_append, List.length_map, List.length_take, List.length_drop, List.length_cons, List.length_nil, List.length_set]; omega)))) | ((with_reducible refine Ob.intro ?ha ?_); (case ha => (first | (as_aux_lemma => kernel_rfl) | ((try simp only [List.forall_mem_append, List.forall_mem_map, List.forall_mem_cons, List.forall_mem_nil, and_true, true_and]); (repeat' apply And.intro) <;> first | (intros; rfl) | omega | (simp only [List.length_append, List.length_map, List.length_take, List.length_drop, List.length_cons, List.length_nil, List.length_set]; omega) | (intro _ h; cases h))))) | ((with_reducible refine br_lt ?_)) | ((with_reducible refine br_lf ?_)) | ((with_reducible refine br_pos ?ha ?_); (case ha => (first | with_reducible assumption | omega | (simp only [List.length_append, List.length_map, List.length_take, List.length_drop, List.length_cons, List.length_nil, List.length_set]; omega)))) | ((with_reducible refine br_neg ?ha ?_); (case ha => (first | with_reducible assumption | omega | (simp only [List.length_append, List.length_map, List.length_take, List.length_drop, List.length_cons, List.length_nil, List.length_set]; omega)))) | ((with_reducible refine br_t ?ha ?_); (case ha => with_reducible assumption)) | ((with_reducible refine br_f ?ha ?_); (case ha => with_reducible assumption)) | ((with_reducible refine br_dec (fun h => ?_) (fun h => ?_))) | ((with_reducible refine br_not ?_)) | ((with_reducible refine br_b (fun h => ?_) (fun h => ?_))) | ((with_reducible refine wr_i64 rfl ?ha ?hb ?_); (case ha => (first | with_reducible assumption | omega | (simp only [List.length_append, List.length_map, List.length_take, List.length_drop, List.length_cons, List.length_nil, List.length_set]; omega))); (case hb => (first | with_reducible assumption | omega | (simp only [List.length_append, List.length_map, List.length_take, List.length_drop, List.length_cons, List.length_nil, List.length_set]; omega)))) | ((with_reducible refine wr_u64 rfl ?ha ?hb ?_); (case ha => (first | with_reducible assumption | omega | (simp only [List.length_append, List.length_map, List.length_take, List.length_drop, List.length_cons, List.length_nil, List.length_set]; omega))); (case hb => (first | with_reducible assumption | omega | (simp only [List.length_append, List.length_map, List.length_take, List.length_drop, List.length_cons, List.length_nil, List.length_set]; omega)))) | ((with_reducible refine wr_u32 rfl ?ha ?hb ?_); (case ha => (first | with_reducible assumption | omega | (simp only [List.length_append, List.length_map, List.length_take, List.length_drop, List.length_cons, List.length_nil, List.length_set]; omega))); (case hb => (first | with_reducible assumption | omega | (simp only [List.length_append, List.length_map, List.length_take, List.length_drop, List.length_cons, List.length_nil, List.length_set]; omega)))) | ((with_reducible refine And.intro ?_ ?_)) | ((with_reducible refine True.intro)) | ((with_reducible refine Stp.go ?_))))); (all_goals (conv => whnf))
  all_goals first
    | (refine fin_f (hK false (iff_of_false (by simp) fun e => ?_)) rfl
       subst e
       omega)
    | skip
  obtain ⟨q1, q2, q3, q4, q5⟩ : t.devs.length = u.devs.length ∧ t.links.length = u.links.length ∧ t.edges.length = u.edges.length ∧ t.pools.length = u.pools.length ∧ t.tol = u.tol := by
    simp only [List.length_map] at *
    omega
  refine Lp.intro Nat (fun k => ⟨2, [(0, boxT t), (1, boxT u)], [(2, .op 0 0), (3, .op 1 0), (5, .v (.int .i64 k))]⟩)
    (fun k => k ≤ t.devs.length ∧ ∀ i, i < k → t.devs[i]? = u.devs[i]?) (fun k => t.devs.length - k) 0 ⟨Nat.zero_le _, fun i h => absurd h (Nat.not_lt_zero _)⟩ ?_ ?_
  · (refine Le.auto ?_; repeat' ((conv => whnf); first | with_reducible refine And.intro ?_ ?_ | with_reducible exact True.intro | rfl))
  intro k ⟨hk, hinv⟩
  rcases Nat.lt_or_ge k t.devs.length with hkl | hkl
  · obtain ⟨x, hx⟩ : ∃ x, t.devs[k]? = some x := ⟨_, List.getElem?_eq_getElem hkl⟩
    obtain ⟨y, hy⟩ : ∃ y, u.devs[k]? = some y := ⟨_, List.getElem?_eq_getElem (by omega)⟩
    have hkl2 : k < u.devs.length := by omega
    (all_goals (repeat' ((conv => whnf); first | (with_reducible refine in_map hkl ?_) | (with_reducible refine in_map hkl2 ?_) | (with_reducible refine ix_map hx ?_) | (with_reducible refine ix_map hy ?_) | (with_reducible refine eqv_D fun b hb => ?_) | ((with_reducible refine sl_full ?ha ?_); (case ha => (first | with_reducible exact Nat.le_refl _ | with_reducible rfl | omega | (simp only [List.length_append, List.length_map, List.length_take, List.length_drop, List.length_cons, List.length_nil, List.length_set]; done) | (simp only [List.length_append, List.length_map, List.length_take, List.length_drop, List.length_cons, List.length_nil, List.length_set]; omega)))) | ((with_reducible refine Ob.intro ?ha ?_); (case ha => (first | (as_aux_lemma => kernel_rfl) | ((try simp only [List.forall_mem_append, List.forall_mem_map, List.forall_mem_cons, List.forall_mem_nil, and_true, true_and]); (repeat' apply And.intro) <;> first | (intros; rfl) | omega | (simp only [List.length_append, List.length_map, List.length_take, List.length_drop, List.length_cons, List.length_nil, List.length_set]; omega) | (intro _ h; cases h))))) | ((with_reducible refine br_lt ?_)) | ((with_reducible refine br_lf ?_)) | ((with_reducible refine br_pos ?ha ?_); (case ha => (first | with_reducible assumption | omega | (simp only [List.length_append, List.length_map, List.length_take, List.length_drop, List.length_cons, List.length_nil, List.length_set]; omega)))) | ((with_reducible refine br_neg ?ha ?_); (case ha => (first | with_reducible assumption | omega | (simp only [List.length_append, List.length_map, List.length_take, List.length_drop, List.length_cons, List.length_nil, List.length_set]; omega)))) | ((with_reducible refine br_t ?ha ?_); (case ha => with_reducible assumption)) | ((with_reducible refine br_f ?ha ?_); (case ha => with_reducible assumption)) | ((with_reducible refine br_dec (fun h => ?_) (fun h => ?_))) | ((with_reducible refine br_not ?_)) | ((with_reducible refine br_b (fun h => ?_) (fun h => ?_))) | ((with_reducible refine wr_i64 rfl ?ha ?hb ?_); (case ha => (first | with_reducible assumption | omega | (simp only [List.length_append, List.length_map, List.length_take, List.length_drop, List.length_cons, List.length_nil, List.length_set]; omega))); (case hb => (first | with_reducible assumption | omega | (simp only [List.length_append, List.length_map, List.length_take, List.length_drop, List.length_cons, List.length_nil, List.length_set]; omega)))) | ((with_reducible refine wr_u64 rfl ?ha ?hb ?_); (case ha => (first | with_reducible assumption | omega | (simp only [List.length_append, List.length_map, List.length_take, List.length_drop, List.length_cons, List.length_nil, List.length_set]; omega))); (case hb => (first | with_reducible assumption | omega | (simp only [List.length_append, List.length_map, List.length_take, List.length_drop, List.length_cons, List.length_nil, List.length_set]; omega)))) | ((with_reducible refine wr_u32 rfl ?ha ?hb ?_); (case ha => (first | with_reducible assumption | omega | (simp only [List.length_append, List.length_map, List.length_take, List.length_drop, List.length_cons, List.length_nil, List.length_set]; omega))); (case hb => (first | with_reducible assumption | omega | (simp only [List.length_append, List.length_map, List.length_take, List.length_drop, List.length_cons, List.length_nil, List.length_set]; omega)))) | ((with_reducible refine And.intro ?_ ?_)) | ((with_reducible refine True.intro)) | ((with_reducible refine Stp.go ?_))))); (all_goals (conv => whnf))
    · refine ⟨k + 1, ⟨by omega, fun i hi => ?_⟩, by omega, ?_⟩
      · rcases Nat.lt_or_ge i k with h1 | h1
        · exact hinv i h1
        · rw [show i = k by omega, hx, hy, hb.1 h]
      · (refine Le.auto ?_; repeat' ((conv => whnf); first | with_reducible refine And.intro ?_ ?_ | with_reducible exact True.intro | rfl))
    · refine fin_f (hK false (iff_of_false (by simp) fun e => ?_)) rfl
      subst e
      rw [hx] at hy; cases hy
      have hbt := hb.2 rfl
      subst hbt
      contradiction
  have e0 := ext_below (by omega) (by omega) hinv
  (all_goals (repeat' ((conv => whnf); first | ((with_reducible refine sl_full ?ha ?_); (case ha => (first | with_reducible exact Nat.le_refl _ | with_reducible rfl | omega | (simp only [List.length_append, List.length_map, List.length_take, List.length_drop, List.length_cons, List.length_nil, List.length_set]; done) | (simp only [List.length_append, List.length_map, List.length_take, List.length_drop, List.length_cons, List.length_nil, List.length_set]; omega)))) | ((with_reducible refine Ob.intro ?ha ?_); (case ha => (first | (as_aux_lemma => kernel_rfl) | ((try simp only [List.forall_mem_append, List.forall_mem_map, List.forall_mem_cons, List.forall_mem_nil, and_true, true_and]); (repeat' apply And.intro) <;> first | (intros; rfl) | omega | (simp only [List.length_append, List.length_map, List.length_take, List.length_drop, List.length_cons, List.length_nil, List.length_set]; omega) | (intro _ h; cases h))))) | ((with_reducible refine br_lt ?_)) | ((with_reducible refine br_lf ?_)) | ((with_reducible refine br_pos ?ha ?_); (case ha => (first | with_reducible assumption | omega | (simp only [List.length_append, List.length_map, List.length_take, List.length_drop, List.length_cons, List.length_nil, List.length_set]; omega)))) | ((with_reducible refine br_neg ?ha ?_); (case ha => (first | with_reducible assumption | omega | (simp only [List.length_append, List.length_map, List.length_take, List.length_drop, List.length_cons, List.length_nil, List.length_set]; omega)))) | ((with_reducible refine br_t ?ha ?_); (case ha => with_reducible assumption)) | ((with_reducible refine br_f ?ha ?_); (case ha => with_reducible assumption)) | ((with_reducible refine br_dec (fun h => ?_) (fun h => ?_))) | ((with_reducible refine br_not ?_)) | ((with_reducible refine br_b (fun h => ?_) (fun h => ?_))) | ((with_reducible refine wr_i64 rfl ?ha ?hb ?_); (case ha => (first | with_reducible assumption | omega | (simp only [List.length_append, List.length_map, List.length_take, List.length_drop, List.length_cons, List.length_nil, List.length_set]; omega))); (case hb => (first | with_reducible assumption | omega | (simp only [List.length_append, List.length_map, List.length_take, List.length_drop, List.length_cons, List.length_nil, List.length_set]; omega)))) | ((with_reducible refine wr_u64 rfl ?ha ?hb ?_); (case ha => (first | with_reducible assumption | omega | (simp only [List.length_append, List.length_map, List.length_take, List.length_drop, List.length_cons, List.length_nil, List.length_set]; omega))); (case hb => (first | with_reducible assumption | omega | (simp only [List.length_append, List.length_map, List.length_take, List.length_drop, List.length_cons, List.length_nil, List.length_set]; omega)))) | ((with_reducible refine wr_u32 rfl ?ha ?hb ?_); (case ha => (first | with_reducible assumption | omega | (simp only [List.length_append, List.length_map, List.length_take, List.length_drop, List.length_cons, List.length_nil, List.length_set]; omega))); (case hb => (first | with_reducible assumption | omega | (simp only [List.length_append, List.length_map, List.length_take, List.length_drop, List.length_cons, List.length_nil, List.length_set]; omega)))) | ((with_reducible refine And.intro ?_ ?_)) | ((with_reducible refine True.intro)) | ((with_reducible refine Stp.go ?_))))); (all_goals (conv => whnf))
  refine Lp.intro Nat (fun k => ⟨2, [(0, boxT t), (1, boxT u)], [(2, .op 0 0), (3, .op 1 0), (6, .v (.int .i64 k))]⟩)
    (fun k => k ≤ t.links.length ∧ ∀ i, i < k → t.links[i]? = u.links[i]?) (fun k => t.links.length - k) 0 ⟨Nat.zero_le _, fun i h => absurd h (Nat.not_lt_zero _)⟩ ?_ ?_
  · (refine Le.auto ?_; repeat' ((conv => whnf); first | with_reducible refine And.intro ?_ ?_ | with_reducible exact True.intro | rfl))
  intro k ⟨hk, hinv⟩
  rcases Nat.lt_or_ge k t.links.length with hkl | hkl
  · obtain ⟨x, hx⟩ : ∃ x, t.links[k]? = some x := ⟨_, List.getElem?_eq_getElem hkl⟩
    obtain ⟨y, hy⟩ : ∃ y, u.links[k]? = some y := ⟨_, List.getElem?_eq_getElem (by omega)⟩
    have hkl2 : k < u.links.length := by omega
    (all_goals (repeat' ((conv => whnf); first | (with_reducible refine in_map hkl ?_) | (with_reducible refine in_map hkl2 ?_) | (with_reducible refine ix_map hx ?_) | (with_reducible refine ix_map hy ?_) | (with_reducible refine eqv_L fun b hb => ?_) | ((with_reducible refine sl_full ?ha ?_); (case ha => (first | with_reducible exact Nat.le_refl _ | with_reducible rfl | omega | (simp only [List.length_append, List.length_map, List.length_take, List.length_drop, List.length_cons, List.length_nil, List.length_set]; done) | (simp only [List.length_append, List.length_map, List.length_take, List.length_drop, List.length_cons, List.length_nil, List.length_set]; omega)))) | ((with_reducible refine Ob.intro ?ha ?_); (case ha => (first | (as_aux_lemma => kernel_rfl) | ((try simp only [List.forall_mem_append, List.forall_mem_map, List.forall_mem_cons, List.forall_mem_nil, and_true, true_and]); (repeat' apply And.intro) <;> first | (intros; rfl) | omega | (simp only [List.length_append, List.length_map, List.length_take, List.length_drop, List.length_cons, List.length_nil, List.length_set]; omega) | (intro _ h; cases h))))) | ((with_reducible refine br_lt ?_)) | ((with_reducible refine br_lf ?_)) | ((with_reducible refine br_pos ?ha ?_); (case ha => (first | with_reducible assumption | omega | (simp only [List.length_append, List.length_map, List.length_take, List.length_drop, List.length_cons, List.length_nil, List.length_set]; omega)))) | ((with_reducible refine br_neg ?ha ?_); (case ha => (first | with_reducible assumption | omega | (simp only [List.length_append, List.length_map, List.length_take, List.length_drop, List.length_cons, List.length_nil, List.length_set]; omega)))) | ((with_reducible refine br_t ?ha ?_); (case ha => with_reducible assumption)) | ((with_reducible refine br_f ?ha ?_); (case ha => with_reducible assumption)) | ((with_reducible refine br_dec (fun h => ?_) (fun h => ?_))) | ((with_reducible refine br_not ?_)) | ((with_reducible refine br_b (fun h => ?_) (fun h => ?_))) | ((with_reducible refine wr_i64 rfl ?ha ?hb ?_); (case ha => (first | with_reducible assumption | omega | (simp only [List.length_append, List.length_map, List.length_take, List.length_drop, List.length_cons, List.length_nil, List.length_set]; omega))); (case hb => (first | with_reducible assumption | omega | (simp only [List.length_append, List.length_map, List.length_take, List.length_drop, List.length_cons, List.length_nil, List.length_set]; omega)))) | ((with_reducible refine wr_u64 rfl ?ha ?hb ?_); (case ha => (first | with_reducible assumption | omega | (simp only [List.length_append, List.length_map, List.length_take, List.length_drop, List.length_cons, List.length_nil, List.length_set]; omega))); (case hb => (first | with_reducible assumption | omega | (simp only [List.length_append, List.length_map, List.length_take, List.length_drop, List.length_cons, List.length_nil, List.length_set]; omega)))) | ((with_reducible refine wr_u32 rfl ?ha ?hb ?_); (case ha => (first | with_reducible assumption | omega | (simp only [List.length_append, List.length_map, List.length_take, List.length_drop, List.length_cons, List.length_nil, List.length_set]; omega))); (case hb => (first | with_reducible assumption | omega | (simp only [List.length_append, List.length_map, List.length_take, List.length_drop, List.length_cons, List.length_nil, List.length_set]; omega)))) | ((with_reducible refine And.intro ?_ ?_)) | ((with_reducible refine True.intro)) | ((with_reducible refine Stp.go ?_))))); (all_goals (conv => whnf))
    · refine ⟨k + 1, ⟨by omega, fun i hi => ?_⟩, by omega, ?_⟩
      · rcases Nat.lt_or_ge i k with h1 | h1
        · exact hinv i h1
        · rw [show i = k by omega, hx, hy, hb.1 h]
      · (refine Le.auto ?_; repeat' ((conv => whnf); first | with_reducible refine And.intro ?_ ?_ | with_reducible exact True.intro | rfl))
    · refine fin_f (hK false (iff_of_false (by simp) fun e => ?_)) rfl
      subst e
      rw [hx] at hy; cases hy
      have hbt := hb.2 rfl
      subst hbt
      contradiction
  have e1 := ext_below (by omega) (by omega) hinv
  (all_goals (repeat' ((conv => whnf); first | ((with_reducible refine sl_full ?ha ?_); (case ha => (first | with_reducible exact Nat.le_refl _ | with_reducible rfl | omega | (simp only [List.length_append, List.length_map, List.length_take, List.length_drop, List.length_cons, List.length_nil, List.length_set]; done) | (simp only [List.length_append, List.length_map, List.length_take, List.length_drop, List.length_cons, List.length_nil, List.length_set]; omega)))) | ((with_reducible refine Ob.intro ?ha ?_); (case ha => (first | (as_aux_lemma => kernel_rfl) | ((try simp only [List.forall_mem_append, List.forall_mem_map, List.forall_mem_cons, List.forall_mem_nil, and_true, true_and]); (repeat' apply And.intro) <;> first | (intros; rfl) | omega | (simp only [List.length_append, List.length_map, List.length_take, List.length_drop, List.length_cons, List.length_nil, List.length_set]; omega) | (intro _ h; cases h))))) | ((with_reducible refine br_lt ?_)) | ((with_reducible refine br_lf ?_)) | ((with_reducible refine br_pos ?ha ?_); (case ha => (first | with_reducible assumption | omega | (simp only [List.length_append, List.length_map, List.length_take, List.length_drop, List.length_cons, List.length_nil, List.length_set]; omega)))) | ((with_reducible refine br_neg ?ha ?_); (case ha => (first | with_reducible assumption | omega | (simp only [List.length_append, List.length_map, List.length_take, List.length_drop, List.length_cons, List.length_nil, List.length_set]; omega)))) | ((with_reducible refine br_t ?ha ?_); (case ha => with_reducible assumption)) | ((with_reducible refine br_f ?ha ?_); (case ha => with_reducible assumption)) | ((with_reducible refine br_dec (fun h => ?_) (fun h => ?_))) | ((with_reducible refine br_not ?_)) | ((with_reducible refine br_b (fun h => ?_) (fun h => ?_))) | ((with_reducible refine wr_i64 rfl ?ha ?hb ?_); (case ha => (first | with_reducible assumption | omega | (simp only [List.length_append, List.length_map, List.length_take, List.length_drop, List.length_cons, List.length_nil, List.length_set]; omega))); (case hb => (first | with_reducible assumption | omega | (simp only [List.length_append, List.length_map, List.length_take, List.length_drop, List.length_cons, List.length_nil, List.length_set]; omega)))) | ((with_reducible refine wr_u64 rfl ?ha ?hb ?_); (case ha => (first | with_reducible assumption | omega | (simp only [List.length_append, List.length_map, List.length_take, List.length_drop, List.length_cons, List.length_nil, List.length_set]; omega))); (case hb => (first | with_reducible assumption | omega | (simp only [List.length_append, List.length_map, List.length_take, List.length_drop, List.length_cons, List.length_nil, List.length_set]; omega)))) | ((with_reducible refine wr_u32 rfl ?ha ?hb ?_); (case ha => (first | with_reducible assumption | omega | (simp only [List.length_append, List.length_map, List.length_take, List.length_drop, List.length_cons, List.length_nil, List.length_set]; omega))); (case hb => (first | with_reducible assumption | omega | (simp only [List.length_append, List.length_map, List.length_take, List.length_drop, List.length_cons, List.length_nil, List.length_set]; omega)))) | ((with_reducible refine And.intro ?_ ?_)) | ((with_reducible refine True.intro)) | ((with_reducible refine Stp.go ?_))))); (all_goals (conv => whnf))
  refine Lp.intro Nat (fun k => ⟨2, [(0, boxT t), (1, boxT u)], [(2, .op 0 0), (3, .op 1 0), (7, .v (.int .i64 k))]⟩)
    (fun k => k ≤ t.edges.length ∧ ∀ i, i < k → t.edges[i]? = u.edges[i]?) (fun k => t.edges.length - k) 0 ⟨Nat.zero_le _, fun i h => absurd h (Nat.not_lt_zero _)⟩ ?_ ?_
  · (refine Le.auto ?_; repeat' ((conv => whnf); first | with_reducible refine And.intro ?_ ?_ | with_reducible exact True.intro | rfl))
  intro k ⟨hk, hinv⟩
  rcases Nat.lt_or_ge k t.edges.length with hkl | hkl
  · obtain ⟨x, hx⟩ : ∃ x, t.edges[k]? = some x := ⟨_, List.getElem?_eq_getElem hkl⟩
    obtain ⟨y, hy⟩ : ∃ y, u.edges[k]? = some y := ⟨_, List.getElem?_eq_getElem (by omega)⟩
    have hkl2 : k < u.edges.length := by omega
    (all_goals (repeat' ((conv => whnf); first | (with_reducible refine in_map hkl ?_) | (with_reducible refine in_map hkl2 ?_) | (with_reducible refine ix_map hx ?_) | (with_reducible refine ix_map hy ?_) | (with_reducible refine eqv_E fun b hb => ?_) | ((with_reducible refine sl_full ?ha ?_); (case ha => (first | with_reducible exact Nat.le_refl _ | with_reducible rfl | omega | (simp only [List.length_append, List.length_map, List.length_take, List.length_drop, List.length_cons, List.length_nil, List.length_set]; done) | (simp only [List.length_append, List.length_map, List.length_take, List.length_drop, List.length_cons, List.length_nil, List.length_set]; omega)))) | ((with_reducible refine Ob.intro ?ha ?_); (case ha => (first | (as_aux_lemma => kernel_rfl) | ((try simp only [List.forall_mem_append, List.forall_mem_map, List.forall_mem_cons, List.forall_mem_nil, and_true, true_and]); (repeat' apply And.intro) <;> first | (intros; rfl) | omega | (simp only [List.length_append, List.length_map, List.length_take, List.length_drop, List.length_cons, List.length_nil, List.length_set]; omega) | (intro _ h; cases h))))) | ((with_reducible refine br_lt ?_)) | ((with_reducible refine br_lf ?_)) | ((with_reducible refine br_pos ?ha ?_); (case ha => (first | with_reducible assumption | omega | (simp only [List.length_append, List.length_map, List.length_take, List.length_drop, List.length_cons, List.length_nil, List.length_set]; omega)))) | ((with_reducible refine br_neg ?ha ?_); (case ha => (first | with_reducible assumption | omega | (simp only [List.length_append, List.length_map, List.length_take, List.length_drop, List.length_cons, List.length_nil, List.length_set]; omega)))) | ((with_reducible refine br_t ?ha ?_); (case ha => with_reducible assumption)) | ((with_reducible refine br_f ?ha ?_); (case ha => with_reducible assumption)) | ((with_reducible refine br_dec (fun h => ?_) (fun h => ?_))) | ((with_reducible refine br_not ?_)) | ((with_reducible refine br_b (fun h => ?_) (fun h => ?_))) | ((with_reducible refine wr_i64 rfl ?ha ?hb ?_); (case ha => (first | with_reducible assumption | omega | (simp only [List.length_append, List.length_map, List.length_take, List.length_drop, List.length_cons, List.length_nil, List.length_set]; omega))); (case hb => (first | with_reducible assumption | omega | (simp only [List.length_append, List.length_map, List.length_take, List.length_drop, List.length_cons, List.length_nil, List.length_set]; omega)))) | ((with_reducible refine wr_u64 rfl ?ha ?hb ?_); (case ha => (first | with_reducible assumption | omega | (simp only [List.length_append, List.length_map, List.length_take, List.length_drop, List.length_cons, List.length_nil, List.length_set]; omega))); (case hb => (first | with_reducible assumption | omega | (simp only [List.length_append, List.length_map, List.length_take, List.length_drop, List.length_cons, List.length_nil, List.length_set]; omega)))) | ((with_reducible refine wr_u32 rfl ?ha ?hb ?_); (case ha => (first | with_reducible assumption | omega | (simp only [List.length_append, List.length_map, List.length_take, List.length_drop, List.length_cons, List.length_nil, List.length_set]; omega))); (case hb => (first | with_reducible assumption | omega | (simp only [List.length_append, List.length_map, List.length_take, List.length_drop, List.length_cons, List.length_nil, List.length_set]; omega)))) | ((with_reducible refine And.intro ?_ ?_)) | ((with_reducible refine True.intro)) | ((with_reducible refine Stp.go ?_))))); (all_goals (conv => whnf))
    · refine ⟨k + 1, ⟨by omega, fun i hi => ?_⟩, by omega, ?_⟩
      · rcases Nat.lt_or_ge i k with h1 | h1
        · exact hinv i h1
        · rw [show i = k by omega, hx, hy, hb.1 h]
      · (refine Le.auto ?_; repeat' ((conv => whnf); first | with_reducible refine And.intro ?_ ?_ | with_reducible exact True.intro | rfl))
    · refine fin_f (hK false (iff_of_false (by simp) fun e => ?_)) rfl
      subst e
      rw [hx] at hy; cases hy
      have hbt := hb.2 rfl
      subst hbt
      contradiction
  have e2 := ext_below (by omega) (by omega) hinv
  (all_goals (repeat' ((conv => whnf); first | ((with_reducible refine sl_full ?ha ?_); (case ha => (first | with_reducible exact Nat.le_refl _ | with_reducible rfl | omega | (simp only [List.length_append, List.length_map, List.length_take, List.length_drop, List.length_cons, List.length_nil, List.length_set]; done) | (simp only [List.length_append, List.length_map, List.length_take, List.length_drop, List.length_cons, List.length_nil, List.length_set]; omega)))) | ((with_reducible refine Ob.intro ?ha ?_); (case ha => (first | (as_aux_lemma => kernel_rfl) | ((try simp only [List.forall_mem_append, List.forall_mem_map, List.forall_mem_cons, List.forall_mem_nil, and_true, true_and]); (repeat' apply And.intro) <;> first | (intros; rfl) | omega | (simp only [List.length_append, List.length_map, List.length_take, List.length_drop, List.length_cons, List.length_nil, List.length_set]; omega) | (intro _ h; cases h))))) | ((with_reducible refine br_lt ?_)) | ((with_reducible refine br_lf ?_)) | ((with_reducible refine br_pos ?ha ?_); (case ha => (first | with_reducible assumption | omega | (simp only [List.length_append, List.length_map, List.length_take, List.length_drop, List.length_cons, List.length_nil, List.length_set]; omega)))) | ((with_reducible refine br_neg ?ha ?_); (case ha => (first | with_reducible assumption | omega | (simp only [List.length_append, List.length_map, List.length_take, List.length_drop, List.length_cons, List.length_nil, List.length_set]; omega)))) | ((with_reducible refine br_t ?ha ?_); (case ha => with_reducible assumption)) | ((with_reducible refine br_f ?ha ?_); (case ha => with_reducible assumption)) | ((with_reducible refine br_dec (fun h => ?_) (fun h => ?_))) | ((with_reducible refine br_not ?_)) | ((with_reducible refine br_b (fun h => ?_) (fun h => ?_))) | ((with_reducible refine wr_i64 rfl ?ha ?hb ?_); (case ha => (first | with_reducible assumption | omega | (simp only [List.length_append, List.length_map, List.length_take, List.length_drop, List.length_cons, List.length_nil, List.length_set]; omega))); (case hb => (first | with_reducible assumption | omega | (simp only [List.length_append, List.length_map, List.length_take, List.length_drop, List.length_cons, List.length_nil, List.length_set]; omega)))) | ((with_reducible refine wr_u64 rfl ?ha ?hb ?_); (case ha => (first | with_reducible assumption | omega | (simp only [List.length_append, List.length_map, List.length_take, List.length_drop, List.length_cons, List.length_nil, List.length_set]; omega))); (case hb => (first | with_reducible assumption | omega | (simp only [List.length_append, List.length_map, List.length_take, List.length_drop, List.length_cons, List.length_nil, List.length_set]; omega)))) | ((with_reducible refine wr_u32 rfl ?ha ?hb ?_); (case ha => (first | with_reducible assumption | omega | (simp only [List.length_append, List.length_map, List.length_take, List.length_drop, List.length_cons, List.length_nil, List.length_set]; omega))); (case hb => (first | with_reducible assumption | omega | (simp only [List.length_append, List.length_map, List.length_take, List.length_drop, List.length_cons, List.length_nil, List.length_set]; omega)))) | ((with_reducible refine And.intro ?_ ?_)) | ((with_reducible refine True.intro)) | ((with_reducible refine Stp.go ?_))))); (all_goals (conv => whnf))
  refine Lp.intro Nat (fun k => ⟨2, [(0, boxT t), (1, boxT u)], [(2, .op 0 0), (3, .op 1 0), (8, .v (.int .i64 k))]⟩)
    (fun k => k ≤ t.pools.length ∧ ∀ i, i < k → t.pools[i]? = u.pools[i]?) (fun k => t.pools.length - k) 0 ⟨Nat.zero_le _, fun i h => absurd h (Nat.not_lt_zero _)⟩ ?_ ?_
  · (refine Le.auto ?_; repeat' ((conv => whnf); first | with_reducible refine And.intro ?_ ?_ | with_reducible exact True.intro | rfl))
  intro k ⟨hk, hinv⟩
  rcases Nat.lt_or_ge k t.pools.length with hkl | hkl
  · obtain ⟨x, hx⟩ : ∃ x, t.pools[k]? = some x := ⟨_, List.getElem?_eq_getElem hkl⟩
    obtain ⟨y, hy⟩ : ∃ y, u.pools[k]? = some y := ⟨_, List.getElem?_eq_getElem (by omega)⟩
    have hkl2 : k < u.pools.length := by omega
    (all_goals (repeat' ((conv => whnf); first | (with_reducible refine in_map hkl ?_) | (with_reducible refine in_map hkl2 ?_) | (with_reducible refine ix_map hx ?_) | (with_reducible refine ix_map hy ?_) | (with_reducible refine eqv_P fun b hb => ?_) | ((with_reducible refine sl_full ?ha ?_); (case ha => (first | with_reducible exact Nat.le_refl _ | with_reducible rfl | omega | (simp only [List.length_append, List.length_map, List.length_take, List.length_drop, List.length_cons, List.length_nil, List.length_set]; done) | (simp only [List.length_append, List.length_map, List.length_take, List.length_drop, List.length_cons, List.length_nil, List.length_set]; omega)))) | ((with_reducible refine Ob.intro ?ha ?_); (case ha => (first | (as_aux_lemma => kernel_rfl) | ((try simp only [List.forall_mem_append, List.forall_mem_map, List.forall_mem_cons, List.forall_mem_nil, and_true, true_and]); (repeat' apply And.intro) <;> first | (intros; rfl) | omega | (simp only [List.length_append, List.length_map, List.length_take, List.length_drop, List.length_cons, List.length_nil, List.length_set]; omega) | (intro _ h; cases h))))) | ((with_reducible refine br_lt ?_)) | ((with_reducible refine br_lf ?_)) | ((with_reducible refine br_pos ?ha ?_); (case ha => (first | with_reducible assumption | omega | (simp only [List.length_append, List.length_map, List.length_take, List.length_drop, List.length_cons, List.length_nil, List.length_set]; omega)))) | ((with_reducible refine br_neg ?ha ?_); (case ha => (first | with_reducible assumption | omega | (simp only [List.length_append, List.length_map, List.length_take, List.length_drop, List.length_cons, List.length_nil, List.length_set]; omega)))) | ((with_reducible refine br_t ?ha ?_); (case ha => with_reducible assumption)) | ((with_reducible refine br_f ?ha ?_); (case ha => with_reducible assumption)) | ((with_reducible refine br_dec (fun h => ?_) (fun h => ?_))) | ((with_reducible refine br_not ?_)) | ((with_reducible refine br_b (fun h => ?_) (fun h => ?_))) | ((with_reducible refine wr_i64 rfl ?ha ?hb ?_); (case ha => (first | with_reducible assumption | omega | (simp only [List.length_append, List.length_map, List.length_take, List.length_drop, List.length_cons, List.length_nil, List.length_set]; omega))); (case hb => (first | with_reducible assumption | omega | (simp only [List.length_append, List.length_map, List.length_take, List.length_drop, List.length_cons, List.length_nil, List.length_set]; omega)))) | ((with_reducible refine wr_u64 rfl ?ha ?hb ?_); (case ha => (first | with_reducible assumption | omega | (simp only [List.length_append, List.length_map, List.length_take, List.length_drop, List.length_cons, List.length_nil, List.length_set]; omega))); (case hb => (first | with_reducible assumption | omega | (simp only [List.length_append, List.length_map, List.length_take, List.length_drop, List.length_cons, List.length_nil, List.length_set]; omega)))) | ((with_reducible refine wr_u32 rfl ?ha ?hb ?_); (case ha => (first | with_reducible assumption | omega | (simp only [List.length_append, List.length_map, List.length_take, List.length_drop, List.length_cons, List.length_nil, List.length_set]; omega))); (case hb => (first | with_reducible assumption | omega | (simp only [List.length_append, List.length_map, List.length_take, List.length_drop, List.length_cons, List.length_nil, List.length_set]; omega)))) | ((with_reducible refine And.intro ?_ ?_)) | ((with_reducible refine True.intro)) | ((with_reducible refine Stp.go ?_))))); (all_goals (conv => whnf))
    · refine ⟨k + 1, ⟨by omega, fun i hi => ?_⟩, by omega, ?_⟩
      · rcases Nat.lt_or_ge i k with h1 | h1
        · exact hinv i h1
        · rw [show i = k by omega, hx, hy, hb.1 h]
      · (refine Le.auto ?_; repeat' ((conv => whnf); first | with_reducible refine And.intro ?_ ?_ | with_reducible exact True.intro | rfl))
    · refine fin_f (hK false (iff_of_false (by simp) fun e => ?_)) rfl
      subst e
      rw [hx] at hy; cases hy
      have hbt := hb.2 rfl
      subst hbt
      contradiction
  have e3 := ext_below (by omega) (by omega) hinv
  (all_goals (repeat' ((conv => whnf); first | ((with_reducible refine sl_full ?ha ?_); (case ha => (first | with_reducible exact Nat.le_refl _ | with_reducible rfl | omega | (simp only [List.length_append, List.length_map, List.length_take, List.length_drop, List.length_cons, List.length_nil, List.length_set]; done) | (simp only [List.length_append, List.length_map, List.length_take, List.length_drop, List.length_cons, List.length_nil, List.length_set]; omega)))) | ((with_reducible refine Ob.intro ?ha ?_); (case ha => (first | (as_aux_lemma => kernel_rfl) | ((try simp only [List.forall_mem_append, List.forall_mem_map, List.forall_mem_cons, List.forall_mem_nil, and_true, true_and]); (repeat' apply And.intro) <;> first | (intros; rfl) | omega | (simp only [List.length_append, List.length_map, List.length_take, List.length_drop, List.length_cons, List.length_nil, List.length_set]; omega) | (intro _ h; cases h))))) | ((with_reducible refine br_lt ?_)) | ((with_reducible refine br_lf ?_)) | ((with_reducible refine br_pos ?ha ?_); (case ha => (first | with_reducible assumption | omega | (simp only [List.length_append, List.length_map, List.length_take, List.length_drop, List.length_cons, List.length_nil, List.length_set]; omega)))) | ((with_reducible refine br_neg ?ha ?_); (case ha => (first | with_reducible assumption | omega | (simp only [List.length_append, List.length_map, List.length_take, List.length_drop, List.length_cons, List.length_nil, List.length_set]; omega)))) | ((with_reducible refine br_t ?ha ?_); (case ha => with_reducible assumption)) | ((with_reducible refine br_f ?ha ?_); (case ha => with_reducible assumption)) | ((with_reducible refine br_dec (fun h => ?_) (fun h => ?_))) | ((with_reducible refine br_not ?_)) | ((with_reducible refine br_b (fun h => ?_) (fun h => ?_))) | ((with_reducible refine wr_i64 rfl ?ha ?hb ?_); (case ha => (first | with_reducible assumption | omega | (simp only [List.length_append, List.length_map, List.length_take, List.length_drop, List.length_cons, List.length_nil, List.length_set]; omega))); (case hb => (first | with_reducible assumption | omega | (simp only [List.length_append, List.length_map, List.length_take, List.length_drop, List.length_cons, List.length_nil, List.length_set]; omega)))) | ((with_reducible refine wr_u64 rfl ?ha ?hb ?_); (case ha => (first | with_reducible assumption | omega | (simp only [List.length_append, List.length_map, List.length_take, List.length_drop, List.length_cons, List.length_nil, List.length_set]; omega))); (case hb => (first | with_reducible assumption | omega | (simp only [List.length_append, List.length_map, List.length_take, List.length_drop, List.length_cons, List.length_nil, List.length_set]; omega)))) | ((with_reducible refine wr_u32 rfl ?ha ?hb ?_); (case ha => (first | with_reducible assumption | omega | (simp only [List.length_append, List.length_map, List.length_take, List.length_drop, List.length_cons, List.length_nil, List.length_set]; omega))); (case hb => (first | with_reducible assumption | omega | (simp only [List.length_append, List.length_map, List.length_take, List.length_drop, List.length_cons, List.length_nil, List.length_set]; omega)))) | ((with_reducible refine And.intro ?_ ?_)) | ((with_reducible refine True.intro)) | ((with_reducible refine Stp.go ?_))))); (all_goals (conv => whnf))
  refine fin_t (hK true (iff_of_true rfl ?_)) rfl
  cases t; cases u
  simp only [Tp.mk.injEq]
  exact ⟨e0, e1, e2, e3, q5⟩
end Go.Proofs.Ytgcplfplbcpemaa

set_option linter.unusedVariables false
set_option linter.unusedSimpArgs false
set_option maxRecDepth 20000
set_option maxHeartbeats 4000000
namespace Go.Proofs.Ytgcplfplbcpemaa
open Go Go.Vm

/-- nsggen.CopyTopology -/
theorem cnCopy (t : Tp) (ht : t.devs.length < 1000000 ∧ t.links.length < 1000000 ∧ t.edges.length < 1000000 ∧ t.pools.length < 1000000) {K : AV → List Vm.Obj → Prop}
    (hK : K (.agg [.os 0 5 0 t.devs.length, .os 1 3 0 t.links.length, .os 2 6 0 t.edges.length, .os 3 2 0 t.pools.length, .v (.int .i64 t.tol)]) [.arr 5 (t.devs.map encD), .arr 3 (t.links.map encL), .arr 6 (t.edges.map encE), .arr 2 (t.pools.map encP)]) :
    ACall Try.prog 16 [encT t] [] K := by
  obtain ⟨t1, t2, t3, t4⟩ := ht
  refine ofnCopy rfl rfl ?_
  (all_goals (repeat' ((conv => whnf); first | ((with_reducible refine sl_full ?ha ?_); (case ha => (first | with_reducible exact Nat.le_refl _ | with_reducible rfl | omega | (simp only [List.length_append, List.length_map, List.length_take, List.length_drop, List.length_cons, List.length_nil, List.length_set]; done) | (simp only [List.length_append, List.length_map, List.length_take, List.length_drop, List.length_cons, List.length_nil, List.length_set]; omega)))) | ((with_reducible refine Ob.intro ?ha ?_); (case ha => (first | (as_aux_lemma => kernel_rfl) | ((try simp only [List.forall_mem_append, List.forall_mem_map, List.forall_mem_cons, List.forall_mem_nil, and_true, true_and]); (repeat' apply And.intro) <;> first | (intros; rfl) | omega | (simp only [List.length_append, List.length_map, List.length_take, List.length_drop, List.length_cons, List.length_nil, List.length_set]; omega) | (intro _ h; cases h))))) | ((with_reducible refine br_lt ?_)) | ((with_reducible refine br_lf ?_)) | ((with_reducible refine br_pos ?ha ?_); (case ha => (first | with_reducible assumption | omega | (simp only [List.length_append, List.length_map, List.length_take, List.length_drop, List.length_cons, List.length_nil, List.length_set]; omega)))) | ((with_reducible refine br_neg ?ha ?_); (case ha => (first | with_reducible assumption | omega | (simp only [List.length_append, List.length_map, List.length_take, List.length_drop, List.length_cons, List.length_nil, List.length_set]; omega)))) | ((with_reducible refine br_t ?ha ?_); (case ha => with_reducible assumption)) | ((with_reducible refine br_f ?ha ?_); (case ha => with_reducible assumption)) | ((with_reducible refine br_dec (fun h => ?_) (fun h => ?_))) | ((with_reducible refine br_not ?_)) | ((with_reducible refine br_b (fun h => ?_) (fun h => ?_))) | ((with_reducible refine wr_i64 rfl ?ha ?hb ?_); (case ha => (first | with_reducible assumption | omega | (simp only [List.length_append, List.length_map, List.length_take, List.length_drop, List.length_cons, List.length_nil, List.length_set]; omega))); (case hb => (first | with_reducible assumption | omega | (simp only [List.length_append, List.length_map, List.length_take, List.length_drop, List.length_cons, List.length_nil, List.length_set]; omega)))) | ((with_reducible refine wr_u64 rfl ?ha ?hb ?_); (case ha => (first | with_reducible assumption | omega | (simp only [List.length_append, List.length_map, List.length_take, List.length_drop, List.length_cons, List.length_nil, List.length_set]; omega))); (case hb => (first | with_reducible assumption | omega | (simp only [List.length_append, List.length_map, List.length_take, List.length_drop, List.length_cons, List.length_nil, List.length_set]; omega)))) | ((with_reducible refine wr_u32 rfl ?ha ?hb ?_); (case ha => (first | with_reducible assumption | omega | (simp only [List.length_append, List.length_map, List.length_take, List.length_drop, List.length_cons, List.length_nil, List.length_set]; omega))); (case hb => (first | with_reducible assumption | omega | (simp only [List.length_append, List.length_map, List.length_take, List.length_drop, List.length_cons, List.length_nil, List.length_set]; omega)))) | ((with_reducible refine And.intro ?_ ?_)) | ((with_reducible refine True.intro)) | ((with_reducible refine Stp.go ?_))))); (all_goals (conv => whnf))
  simp only [Nat.zero_add, List.length_map, List.nil_append]
  exact hK
theorem fixed_all {l : List Ed} (h : ∀ e, e ∈ l → e.pl = false) : (fixed l).length = l.length := by
  rw [fixed, List.length_map, List.filter_eq_self.2 (fun e he => by simp [h e he])]
/-- nsgref11.Complete of what is complete -/
theorem cuComp (t : Tp) (ht : TopOk t) (hf : ∀ e, e ∈ t.edges → e.pl = false) {K : AV → List Vm.Obj → Prop} (hK : K (.sb true) []) : ACall Try.prog 15 [encT t] [] K := by
  have := ht.e1
  have hb := topB_true ht
  have hl := fixed_all hf
  refine ACall.bool (ofuComp rfl rfl ?_)
  (all_goals (repeat' ((conv => whnf); first | (with_reducible refine cuVal t ?_) | (with_reducible refine cuFixed t (by omega) ?_) | ((with_reducible refine sl_full ?ha ?_); (case ha => (first | with_reducible exact Nat.le_refl _ | with_reducible rfl | omega | (simp only [List.length_append, List.length_map, List.length_take, List.length_drop, List.length_cons, List.length_nil, List.length_set]; done) | (simp only [List.length_append, List.length_map, List.length_take, List.length_drop, List.length_cons, List.length_nil, List.length_set]; omega)))) | ((with_reducible refine Ob.intro ?ha ?_); (case ha => (first | (as_aux_lemma => kernel_rfl) | ((try simp only [List.forall_mem_append, List.forall_mem_map, List.forall_mem_cons, List.forall_mem_nil, and_true, true_and]); (repeat' apply And.intro) <;> first | (intros; rfl) | omega | (simp only [List.length_append, List.length_map, List.length_take, List.length_drop, List.length_cons, List.length_nil, List.length_set]; omega) | (intro _ h; cases h))))) | ((with_reducible refine br_lt ?_)) | ((with_reducible refine br_lf ?_)) | ((with_reducible refine br_pos ?ha ?_); (case ha => (first | with_reducible assumption | omega | (simp only [List.length_append, List.length_map, List.length_take, List.length_drop, List.length_cons, List.length_nil, List.length_set]; omega)))) | ((with_reducible refine br_neg ?ha ?_); (case ha => (first | with_reducible assumption | omega | (simp only [List.length_append, List.length_map, List.length_take, List.length_drop, List.length_cons, List.length_nil, List.length_set]; omega)))) | ((with_reducible refine br_t ?ha ?_); (case ha => with_reducible assumption)) | ((with_reducible refine br_f ?ha ?_); (case ha => with_reducible assumption)) | ((with_reducible refine br_dec (fun h => ?_) (fun h => ?_))) | ((with_reducible refine br_not ?_)) | ((with_reducible refine br_b (fun h => ?_) (fun h => ?_))) | ((with_reducible refine wr_i64 rfl ?ha ?hb ?_); (case ha => (first | with_reducible assumption | omega | (simp only [List.length_append, List.length_map, List.length_take, List.length_drop, List.length_cons, List.length_nil, List.length_set]; omega))); (case hb => (first | with_reducible assumption | omega | (simp only [List.length_append, List.length_map, List.length_take, List.length_drop, List.length_cons, List.length_nil, List.length_set]; omega)))) | ((with_reducible refine wr_u64 rfl ?ha ?hb ?_); (case ha => (first | with_reducible assumption | omega | (simp only [List.length_append, List.length_map, List.length_take, List.length_drop, List.length_cons, List.length_nil, List.length_set]; omega))); (case hb => (first | with_reducible assumption | omega | (simp only [List.length_append, List.length_map, List.length_take, List.length_drop, List.length_cons, List.length_nil, List.length_set]; omega)))) | ((with_reducible refine wr_u32 rfl ?ha ?hb ?_); (case ha => (first | with_reducible assumption | omega | (simp only [List.length_append, List.length_map, List.length_take, List.length_drop, List.length_cons, List.length_nil, List.length_set]; omega))); (case hb => (first | with_reducible assumption | omega | (simp only [List.length_append, List.length_map, List.length_take, List.length_drop, List.length_cons, List.length_nil, List.length_set]; omega)))) | ((with_reducible refine And.intro ?_ ?_)) | ((with_reducible refine True.intro)) | ((with_reducible refine Stp.go ?_))))); (all_goals (conv => whnf))
  all_goals first
    | (rw [hb] at h; cases h; done)
    | (refine fin_s hK ?_; simp only [List.length_map, hl, decide_true])
/-- what has been served lies in a pool -/
theorem served_in {t : Tp} (g : GPla t) {e0 e : Ed} (hb0 : 0 ≤ e0.pf.bits) (hb1 : e0.pf.bits ≤ 32) (h : Served t e0 e) : (t.pools.any fun p => p.cov e.pf) = true ∧ e.pf.bits = e0.pf.bits := by
  obtain ⟨a, a0, a1, a2, rfl, hin⟩ := h
  have hz := pz_pos e0.pf.bits
  refine ⟨?_, mkPf_bits _ _⟩
  have ok : (mkPf a e0.pf.bits).okP := ⟨by rw [mkPf_bits]; exact hb0, by rw [mkPf_bits]; exact hb1, by rw [mkPf_bits, mkPf_addr a0 (by omega)]; exact a2⟩
  have covOf : ∀ p : Pf, p.has a = true → p.has (a + pz e0.pf.bits - 1) = true → p.cov (mkPf a e0.pf.bits) = true := by
    intro p h1 h2
    simp only [Pf.cov, Bool.and_eq_true, decide_eq_true_eq]
    refine ⟨ok, ?_, ?_⟩
    · rw [rg_lo ok, mkPf_addr a0 (by omega)]; exact h1
    · rw [rg_hi ok, mkPf_addr a0 (by omega), mkPf_bits]; exact h2
  have h1 : ∀ v, pool1.has v = true ↔ 168296448 ≤ v ∧ v ≤ 168297471 := fun v => by rw [has_iffP]; exact ⟨fun h => h.2, fun h => ⟨by decide, h⟩⟩
  have h2 : ∀ v, pool2.has v = true ↔ 167772672 ≤ v ∧ v ≤ 167772927 := fun v => by rw [has_iffP]; exact ⟨fun h => h.2, fun h => ⟨by decide, h⟩⟩
  have q1 := hin a (Int.le_refl _) (by omega)
  have q2 := hin (a + pz e0.pf.bits - 1) (by omega) (Int.le_refl _)
  rcases g.pools with hp | hp | hp <;> rw [hp] at q1 q2 hin ⊢
  · simp only [List.any_cons, List.any_nil, Bool.or_false] at q1 q2 ⊢
    exact covOf _ q1 q2
  · simp only [List.any_cons, List.any_nil, Bool.or_false] at q1 q2 ⊢
    exact covOf _ q1 q2
  · simp only [List.any_cons, List.any_nil, Bool.or_false, Bool.or_eq_true] at q1 q2 ⊢ hin
    rcases q1 with q1 | q1
    · rcases q2 with q2 | q2
      · exact .inl (covOf _ q1 q2)
      · rw [h1] at q1; rw [h2] at q2; omega
    · rcases q2 with q2 | q2
      · exfalso
        have := hin 167772928 (by rw [h2] at q1; omega) (by rw [h1] at q2; omega)
        rw [h1, h2] at this; omega
      · exact .inr (covOf _ q1 q2)
/-- AddressingSound -/
theorem cSound (raw : List Int) (hr : raw.length ≤ 9223372036854775807) : ACall Try.prog 4 [.lst (raw.map encI)] [] Yes := by
  refine ACall.bool (oflSound rfl rfl ?_)
  (all_goals (repeat' ((conv => whnf); first | (with_reducible refine c9 raw ?_) | (with_reducible refine cnPla3 raw _ (by omega) hr fun x p1 hg hp1 => ?_) | ((with_reducible refine sl_full ?ha ?_); (case ha => (first | with_reducible exact Nat.le_refl _ | with_reducible rfl | omega | (simp only [List.length_append, List.length_map, List.length_take, List.length_drop, List.length_cons, List.length_nil, List.length_set]; done) | (simp only [List.length_append, List.length_map, List.length_take, List.length_drop, List.length_cons, List.length_nil, List.length_set]; omega)))) | ((with_reducible refine Ob.intro ?ha ?_); (case ha => (first | (as_aux_lemma => kernel_rfl) | ((try simp only [List.forall_mem_append, List.forall_mem_map, List.forall_mem_cons, List.forall_mem_nil, and_true, true_and]); (repeat' apply And.intro) <;> first | (intros; rfl) | omega | (simp only [List.length_append, List.length_map, List.length_take, List.length_drop, List.length_cons, List.length_nil, List.length_set]; omega) | (intro _ h; cases h))))) | ((with_reducible refine br_lt ?_)) | ((with_reducible refine br_lf ?_)) | ((with_reducible refine br_pos ?ha ?_); (case ha => (first | with_reducible assumption | omega | (simp only [List.length_append, List.length_map, List.length_take, List.length_drop, List.length_cons, List.length_nil, List.length_set]; omega)))) | ((with_reducible refine br_neg ?ha ?_); (case ha => (first | with_reducible assumption | omega | (simp only [List.length_append, List.length_map, List.length_take, List.length_drop, List.length_cons, List.length_nil, List.length_set]; omega)))) | ((with_reducible refine br_t ?ha ?_); (case ha => with_reducible assumption)) | ((with_reducible refine br_f ?ha ?_); (case ha => with_reducible assumption)) | ((with_reducible refine br_dec (fun h => ?_) (fun h => ?_))) | ((with_reducible refine br_not ?_)) | ((with_reducible refine br_b (fun h => ?_) (fun h => ?_))) | ((with_reducible refine wr_i64 rfl ?ha ?hb ?_); (case ha => (first | with_reducible assumption | omega | (simp only [List.length_append, List.length_map, List.length_take, List.length_drop, List.length_cons, List.length_nil, List.length_set]; omega))); (case hb => (first | with_reducible assumption | omega | (simp only [List.length_append, List.length_map, List.length_take, List.length_drop, List.length_cons, List.length_nil, List.length_set]; omega)))) | ((with_reducible refine wr_u64 rfl ?ha ?hb ?_); (case ha => (first | with_reducible assumption | omega | (simp only [List.length_append, List.length_map, List.length_take, List.length_drop, List.length_cons, List.length_nil, List.length_set]; omega))); (case hb => (first | with_reducible assumption | omega | (simp only [List.length_append, List.length_map, List.length_take, List.length_drop, List.length_cons, List.length_nil, List.length_set]; omega)))) | ((with_reducible refine wr_u32 rfl ?ha ?hb ?_); (case ha => (first | with_reducible assumption | omega | (simp only [List.length_append, List.length_map, List.length_take, List.length_drop, List.length_cons, List.length_nil, List.length_set]; omega))); (case hb => (first | with_reducible assumption | omega | (simp only [List.length_append, List.length_map, List.length_take, List.length_drop, List.length_cons, List.length_nil, List.length_set]; omega)))) | ((with_reducible refine And.intro ?_ ?_)) | ((with_reducible refine True.intro)) | ((with_reducible refine Stp.go ?_))))); (all_goals (conv => whnf))
  have ht := topOk_pla hg
  have hb1 := ht.d1; have hb2 := ht.l1; have hb3 := ht.e1; have hb4 := ht.p1
  have hbs : x.devs.length < 1000000 ∧ x.links.length < 1000000 ∧ x.edges.length < 1000000 ∧ x.pools.length < 1000000 := by omega
  rcases hpo : planOf x with _ | es
  · have hpl : ∀ (K : AV → List Vm.Obj → Prop), K (.tup [encT noTop, .v (.int .i64 9)]) [] → ACall Try.prog 10 [encT x] [] K := fun K h => cplan x (by rw [planT, planE, topB_true ht, hpo]; exact h)
    (all_goals (repeat' ((conv => whnf); first | (with_reducible refine hpl _ ?_) | (with_reducible refine csane ?_) | (refine cuSame noTop noTop (by decide) fun b hb => ?_) | ((with_reducible refine sl_full ?ha ?_); (case ha => (first | with_reducible exact Nat.le_refl _ | with_reducible rfl | omega | (simp only [List.length_append, List.length_map, List.length_take, List.length_drop, List.length_cons, List.length_nil, List.length_set]; done) | (simp only [List.length_append, List.length_map, List.length_take, List.length_drop, List.length_cons, List.length_nil, List.length_set]; omega)))) | ((with_reducible refine Ob.intro ?ha ?_); (case ha => (first | (as_aux_lemma => kernel_rfl) | ((try simp only [List.forall_mem_append, List.forall_mem_map, List.forall_mem_cons, List.forall_mem_nil, and_true, true_and]); (repeat' apply And.intro) <;> first | (intros; rfl) | omega | (simp only [List.length_append, List.length_map, List.length_take, List.length_drop, List.length_cons, List.length_nil, List.length_set]; omega) | (intro _ h; cases h))))) | ((with_reducible refine br_lt ?_)) | ((with_reducible refine br_lf ?_)) | ((with_reducible refine br_pos ?ha ?_); (case ha => (first | with_reducible assumption | omega | (simp only [List.length_append, List.length_map, List.length_take, List.length_drop, List.length_cons, List.length_nil, List.length_set]; omega)))) | ((with_reducible refine br_neg ?ha ?_); (case ha => (first | with_reducible assumption | omega | (simp only [List.length_append, List.length_map, List.length_take, List.length_drop, List.length_cons, List.length_nil, List.length_set]; omega)))) | ((with_reducible refine br_t ?ha ?_); (case ha => with_reducible assumption)) | ((with_reducible refine br_f ?ha ?_); (case ha => with_reducible assumption)) | ((with_reducible refine br_dec (fun h => ?_) (fun h => ?_))) | ((with_reducible refine br_not ?_)) | ((with_reducible refine br_b (fun h => ?_) (fun h => ?_))) | ((with_reducible refine wr_i64 rfl ?ha ?hb ?_); (case ha => (first | with_reducible assumption | omega | (simp only [List.length_append, List.length_map, List.length_take, List.length_drop, List.length_cons, List.length_nil, List.length_set]; omega))); (case hb => (first | with_reducible assumption | omega | (simp only [List.length_append, List.length_map, List.length_take, List.length_drop, List.length_cons, List.length_nil, List.length_set]; omega)))) | ((with_reducible refine wr_u64 rfl ?ha ?hb ?_); (case ha => (first | with_reducible assumption | omega | (simp only [List.length_append, List.length_map, List.length_take, List.length_drop, List.length_cons, List.length_nil, List.length_set]; omega))); (case hb => (first | with_reducible assumption | omega | (simp only [List.length_append, List.length_map, List.length_take, List.length_drop, List.length_cons, List.length_nil, List.length_set]; omega)))) | ((with_reducible refine wr_u32 rfl ?ha ?hb ?_); (case ha => (first | with_reducible assumption | omega | (simp only [List.length_append, List.length_map, List.length_take, List.length_drop, List.length_cons, List.length_nil, List.length_set]; omega))); (case hb => (first | with_reducible assumption | omega | (simp only [List.length_append, List.length_map, List.length_take, List.length_drop, List.length_cons, List.length_nil, List.length_set]; omega)))) | ((with_reducible refine And.intro ?_ ?_)) | ((with_reducible refine True.intro)) | ((with_reducible refine Stp.go ?_))))); (all_goals (conv => whnf))
    all_goals first
      | exact yes_sb rfl
      | (have := hb.2 rfl; simp_all; done)
  · have hpl : ∀ (K : AV → List Vm.Obj → Prop), K (.tup [encT { x with edges := es }, .v (.int .i64 0)]) [] → ACall Try.prog 10 [encT x] [] K := fun K h => cplan x (by rw [planT, planE, topB_true ht, hpo]; exact h)
    obtain ⟨hv, hf, hlen, hat⟩ := plan_valid ht hpo
    have hcomp : ∀ (K : AV → List Vm.Obj → Prop), K (.sb true) [] → ACall Try.prog 15 [.agg [.lst (x.devs.map encD), .lst (x.links.map encL), .lst (es.map encE), .lst (x.pools.map encP), .v (.int .i64 x.tol)]] [] K := fun K h => cuComp { x with edges := es } hv hf h
    (all_goals (repeat' ((conv => whnf); first | (with_reducible refine hpl _ ?_) | (with_reducible refine hcomp _ ?_) | (with_reducible refine cnCopy x hbs ?_) | ((with_reducible refine sl_full ?ha ?_); (case ha => (first | with_reducible exact Nat.le_refl _ | with_reducible rfl | omega | (simp only [List.length_append, List.length_map, List.length_take, List.length_drop, List.length_cons, List.length_nil, List.length_set]; done) | (simp only [List.length_append, List.length_map, List.length_take, List.length_drop, List.length_cons, List.length_nil, List.length_set]; omega)))) | ((with_reducible refine Ob.intro ?ha ?_); (case ha => (first | (as_aux_lemma => kernel_rfl) | ((try simp only [List.forall_mem_append, List.forall_mem_map, List.forall_mem_cons, List.forall_mem_nil, and_true, true_and]); (repeat' apply And.intro) <;> first | (intros; rfl) | omega | (simp only [List.length_append, List.length_map, List.length_take, List.length_drop, List.length_cons, List.length_nil, List.length_set]; omega) | (intro _ h; cases h))))) | ((with_reducible refine br_lt ?_)) | ((with_reducible refine br_lf ?_)) | ((with_reducible refine br_pos ?ha ?_); (case ha => (first | with_reducible assumption | omega | (simp only [List.length_append, List.length_map, List.length_take, List.length_drop, List.length_cons, List.length_nil, List.length_set]; omega)))) | ((with_reducible refine br_neg ?ha ?_); (case ha => (first | with_reducible assumption | omega | (simp only [List.length_append, List.length_map, List.length_take, List.length_drop, List.length_cons, List.length_nil, List.length_set]; omega)))) | ((with_reducible refine br_t ?ha ?_); (case ha => with_reducible assumption)) | ((with_reducible refine br_f ?ha ?_); (case ha => with_reducible assumption)) | ((with_reducible refine br_dec (fun h => ?_) (fun h => ?_))) | ((with_reducible refine br_not ?_)) | ((with_reducible refine br_b (fun h => ?_) (fun h => ?_))) | ((with_reducible refine wr_i64 rfl ?ha ?hb ?_); (case ha => (first | with_reducible assumption | omega | (simp only [List.length_append, List.length_map, List.length_take, List.length_drop, List.length_cons, List.length_nil, List.length_set]; omega))); (case hb => (first | with_reducible assumption | omega | (simp only [List.length_append, List.length_map, List.length_take, List.length_drop, List.length_cons, List.length_nil, List.length_set]; omega)))) | ((with_reducible refine wr_u64 rfl ?ha ?hb ?_); (case ha => (first | with_reducible assumption | omega | (simp only [List.length_append, List.length_map, List.length_take, List.length_drop, List.length_cons, List.length_nil, List.length_set]; omega))); (case hb => (first | with_reducible assumption | omega | (simp only [List.length_append, List.length_map, List.length_take, List.length_drop, List.length_cons, List.length_nil, List.length_set]; omega)))) | ((with_reducible refine wr_u32 rfl ?ha ?hb ?_); (case ha => (first | with_reducible assumption | omega | (simp only [List.length_append, List.length_map, List.length_take, List.length_drop, List.length_cons, List.length_nil, List.length_set]; omega))); (case hb => (first | with_reducible assumption | omega | (simp only [List.length_append, List.length_map, List.length_take, List.length_drop, List.length_cons, List.length_nil, List.length_set]; omega)))) | ((with_reducible refine And.intro ?_ ?_)) | ((with_reducible refine True.intro)) | ((with_reducible refine Stp.go ?_))))); (all_goals (conv => whnf))
    refine Lp.intro Nat (fun k => ⟨7, [(0, boxT x), (1, boxT { x with edges := es }), (2, boxX x.devs.length x.links.length x.edges.length x.pools.length x.tol), (3, .arr 5 (x.devs.map encD)), (4, .arr 3 (x.links.map encL)), (5, .arr 6 ((es.take k ++ x.edges.drop k).map encE)), (6, .arr 2 (x.pools.map encP))], [(4, .op 0 0), (5, .op 1 0), (7, .op 2 0), (8, .v (.int .i64 k))]⟩)
      (fun k => k ≤ x.edges.length) (fun k => x.edges.length - k) 0 (Nat.zero_le _) ?_ ?_
    · rw [List.take_zero, List.drop_zero, List.nil_append]
      (refine Le.auto ?_; repeat' ((conv => whnf); first | with_reducible refine And.intro ?_ ?_ | with_reducible exact True.intro | rfl))
    intro k hk
    rcases Nat.lt_or_ge k x.edges.length with hlt | hge
    · obtain ⟨e0, he0⟩ : ∃ e, x.edges[k]? = some e := ⟨_, List.getElem?_eq_getElem hlt⟩
      have hlt2 : k < es.length := by omega
      obtain ⟨e, he⟩ : ∃ e, es[k]? = some e := ⟨_, List.getElem?_eq_getElem hlt2⟩
      have hd : x.edges.drop k = e0 :: x.edges.drop (k + 1) := by
        rw [List.getElem?_eq_getElem hlt] at he0
        rw [← Option.some.inj he0, ← List.drop_eq_getElem_cons hlt]
      have htk : es.take (k + 1) = es.take k ++ [e] := by rw [List.take_add_one, he]; rfl
      have hz0 : (es.take k ++ x.edges.drop k)[0 + k]? = some e0 := by
        rw [Nat.zero_add, hd, List.getElem?_append_right (by rw [List.length_take]; omega), List.length_take, Nat.min_eq_left (by omega), Nat.sub_self]; rfl
      have hzl : (es.take k ++ x.edges.drop k).length = x.edges.length := by rw [List.length_append, List.length_take, List.length_drop]; omega
      have hset : 0 + k < ((es.take k ++ x.edges.drop k).map encE).length := by rw [List.length_map, hzl]; omega
      have hb0 := okP_bits (ht.edge k e0 he0).1.2.2.2.2.2.1
      (all_goals (repeat' ((conv => whnf); first | (with_reducible refine in_map hlt ?_) | (with_reducible refine in_map hlt2 ?_) | (with_reducible refine ix_map he0 ?_) | (with_reducible refine ix_map he ?_) | ((with_reducible refine sl_full ?ha ?_); (case ha => (first | with_reducible exact Nat.le_refl _ | with_reducible rfl | omega | (simp only [List.length_append, List.length_map, List.length_take, List.length_drop, List.length_cons, List.length_nil, List.length_set]; done) | (simp only [List.length_append, List.length_map, List.length_take, List.length_drop, List.length_cons, List.length_nil, List.length_set]; omega)))) | ((with_reducible refine Ob.intro ?ha ?_); (case ha => (first | (as_aux_lemma => kernel_rfl) | ((try simp only [List.forall_mem_append, List.forall_mem_map, List.forall_mem_cons, List.forall_mem_nil, and_true, true_and]); (repeat' apply And.intro) <;> first | (intros; rfl) | omega | (simp only [List.length_append, List.length_map, List.length_take, List.length_drop, List.length_cons, List.length_nil, List.length_set]; omega) | (intro _ h; cases h))))) | ((with_reducible refine br_lt ?_)) | ((with_reducible refine br_lf ?_)) | ((with_reducible refine br_pos ?ha ?_); (case ha => (first | with_reducible assumption | omega | (simp only [List.length_append, List.length_map, List.length_take, List.length_drop, List.length_cons, List.length_nil, List.length_set]; omega)))) | ((with_reducible refine br_neg ?ha ?_); (case ha => (first | with_reducible assumption | omega | (simp only [List.length_append, List.length_map, List.length_take, List.length_drop, List.length_cons, List.length_nil, List.length_set]; omega)))) | ((with_reducible refine br_t ?ha ?_); (case ha => with_reducible assumption)) | ((with_reducible refine br_f ?ha ?_); (case ha => with_reducible assumption)) | ((with_reducible refine br_dec (fun h => ?_) (fun h => ?_))) | ((with_reducible refine br_not ?_)) | ((with_reducible refine br_b (fun h => ?_) (fun h => ?_))) | ((with_reducible refine wr_i64 rfl ?ha ?hb ?_); (case ha => (first | with_reducible assumption | omega | (simp only [List.length_append, List.length_map, List.length_take, List.length_drop, List.length_cons, List.length_nil, List.length_set]; omega))); (case hb => (first | with_reducible assumption | omega | (simp only [List.length_append, List.length_map, List.length_take, List.length_drop, List.length_cons, List.length_nil, List.length_set]; omega)))) | ((with_reducible refine wr_u64 rfl ?ha ?hb ?_); (case ha => (first | with_reducible assumption | omega | (simp only [List.length_append, List.length_map, List.length_take, List.length_drop, List.length_cons, List.length_nil, List.length_set]; omega))); (case hb => (first | with_reducible assumption | omega | (simp only [List.length_append, List.length_map, List.length_take, List.length_drop, List.length_cons, List.length_nil, List.length_set]; omega)))) | ((with_reducible refine wr_u32 rfl ?ha ?hb ?_); (case ha => (first | with_reducible assumption | omega | (simp only [List.length_append, List.length_map, List.length_take, List.length_drop, List.length_cons, List.length_nil, List.length_set]; omega))); (case hb => (first | with_reducible assumption | omega | (simp only [List.length_append, List.length_map, List.length_take, List.length_drop, List.length_cons, List.length_nil, List.length_set]; omega)))) | ((with_reducible refine And.intro ?_ ?_)) | ((with_reducible refine True.intro)) | ((with_reducible refine Stp.go ?_))))); (all_goals (conv => whnf))
      · rcases hat k e e0 he he0 with ⟨q1, _⟩ | ⟨_, hsv⟩
        · rw [q1] at h; cases h
        obtain ⟨hany, hbits⟩ := served_in hg hb0.1 hb0.2 hsv
        have henc : encE e = .agg [.v (.string e0.name), .v (.int .i64 e0.dev), .v (.string e0.zone), .v (.int .u32 e.pf.addr), .v (.int .i64 e.pf.bits), .sb false] := by
          obtain ⟨a, _, _, _, hee, _⟩ := hsv
          have n1 : e.name = e0.name := by rw [hee]
          have n2 : e.dev = e0.dev := by rw [hee]
          have n3 : e.zone = e0.zone := by rw [hee]
          have n4 : e.pl = false := by rw [hee]
          simp only [encE, n1, n2, n3, n4]
        have harr : ((((es.take k ++ x.edges.drop k).map encE).set (0 + k) (.agg [.v (.string e0.name), .v (.int .i64 e0.dev), .v (.string e0.zone), .v (.int .u32 e.pf.addr), .v (.int .i64 e.pf.bits), .sb e0.pl])).set (0 + k)
            (.agg [.v (.string e0.name), .v (.int .i64 e0.dev), .v (.string e0.zone), .v (.int .u32 e.pf.addr), .v (.int .i64 e.pf.bits), .sb false])) = (es.take (k + 1) ++ x.edges.drop (k + 1)).map encE := by
          rw [List.set_set, ← henc, ← List.map_set, Nat.zero_add, List.set_append_right _ _ (by rw [List.length_take]; omega), List.length_take, Nat.min_eq_left (by omega), Nat.sub_self, hd, htk, List.append_assoc]
          rfl
        refine Lp.intro (Nat × AV) (fun g => ⟨8, [(7, .box [.v (.int .u32 e.pf.addr), .v (.int .i64 e.pf.bits)]), (0, boxT x), (1, boxT ⟨x.devs, x.links, es, x.pools, x.tol⟩), (2, boxX x.devs.length x.links.length x.edges.length x.pools.length x.tol), (3, .arr 5 (x.devs.map encD)), (4, .arr 3 (x.links.map encL)), (5, .arr 6 ((es.take k ++ x.edges.drop k).map encE)), (6, .arr 2 (x.pools.map encP))], [(4, .op 0 0), (5, .op 1 0), (7, .op 2 0), (8, .v (.int .i64 k)), (9, .op 7 0), (10, g.2), (11, .v (.int .i64 g.1))]⟩)
          (fun g => g.1 ≤ x.pools.length ∧ ((g.2 = .v (.bool false) ∧ ((x.pools.take g.1).any fun p => p.cov e.pf) = false) ∨ (g.2 = .v (.bool true) ∧ ((x.pools.take g.1).any fun p => p.cov e.pf) = true) ∨ g.2 = .sb ((x.pools.take g.1).any fun p => p.cov e.pf))) (fun g => x.pools.length - g.1) (0, .v (.bool false)) ?_ ?_ ?_
        · exact ⟨Nat.zero_le _, .inl ⟨rfl, rfl⟩⟩
        · (refine Le.auto ?_; repeat' ((conv => whnf); first | with_reducible refine And.intro ?_ ?_ | with_reducible exact True.intro | rfl))
        rintro ⟨j, iv⟩ ⟨hj, hiv⟩
        simp only at hj hiv ⊢
        rcases Nat.lt_or_ge j x.pools.length with hjl | hjl
        · obtain ⟨r, hr⟩ : ∃ r, x.pools[j]? = some r := ⟨_, List.getElem?_eq_getElem hjl⟩
          have hA : ((x.pools.take (j + 1)).any fun p => p.cov e.pf) = (((x.pools.take j).any fun p => p.cov e.pf) || r.cov e.pf) := by
            rw [List.take_add_one, hr, List.any_append]; simp [Option.toList]
          generalize ((x.pools.take j).any fun p => p.cov e.pf) = A at *
          rcases hiv with ⟨rfl, hA0⟩ | ⟨rfl, hA0⟩ | rfl
          all_goals
            (all_goals (repeat' ((conv => whnf); first | (with_reducible refine in_map hjl ?_) | (with_reducible refine ix_map hr ?_) | (with_reducible refine crCov r e.pf ?_) | ((with_reducible refine sl_full ?ha ?_); (case ha => (first | with_reducible exact Nat.le_refl _ | with_reducible rfl | omega | (simp only [List.length_append, List.length_map, List.length_take, List.length_drop, List.length_cons, List.length_nil, List.length_set]; done) | (simp only [List.length_append, List.length_map, List.length_take, List.length_drop, List.length_cons, List.length_nil, List.length_set]; omega)))) | ((with_reducible refine Ob.intro ?ha ?_); (case ha => (first | (as_aux_lemma => kernel_rfl) | ((try simp only [List.forall_mem_append, List.forall_mem_map, List.forall_mem_cons, List.forall_mem_nil, and_true, true_and]); (repeat' apply And.intro) <;> first | (intros; rfl) | omega | (simp only [List.length_append, List.length_map, List.length_take, List.length_drop, List.length_cons, List.length_nil, List.length_set]; omega) | (intro _ h; cases h))))) | ((with_reducible refine br_lt ?_)) | ((with_reducible refine br_lf ?_)) | ((with_reducible refine br_pos ?ha ?_); (case ha => (first | with_reducible assumption | omega | (simp only [List.length_append, List.length_map, List.length_take, List.length_drop, List.length_cons, List.length_nil, List.length_set]; omega)))) | ((with_reducible refine br_neg ?ha ?_); (case ha => (first | with_reducible assumption | omega | (simp only [List.length_append, List.length_map, List.length_take, List.length_drop, List.length_cons, List.length_nil, List.length_set]; omega)))) | ((with_reducible refine br_t ?ha ?_); (case ha => with_reducible assumption)) | ((with_reducible refine br_f ?ha ?_); (case ha => with_reducible assumption)) | ((with_reducible refine br_dec (fun h => ?_) (fun h => ?_))) | ((with_reducible refine br_not ?_)) | ((with_reducible refine br_b (fun h => ?_) (fun h => ?_))) | ((with_reducible refine wr_i64 rfl ?ha ?hb ?_); (case ha => (first | with_reducible assumption | omega | (simp only [List.length_append, List.length_map, List.length_take, List.length_drop, List.length_cons, List.length_nil, List.length_set]; omega))); (case hb => (first | with_reducible assumption | omega | (simp only [List.length_append, List.length_map, List.length_take, List.length_drop, List.length_cons, List.length_nil, List.length_set]; omega)))) | ((with_reducible refine wr_u64 rfl ?ha ?hb ?_); (case ha => (first | with_reducible assumption | omega | (simp only [List.length_append, List.length_map, List.length_take, List.length_drop, List.length_cons, List.length_nil, List.length_set]; omega))); (case hb => (first | with_reducible assumption | omega | (simp only [List.length_append, List.length_map, List.length_take, List.length_drop, List.length_cons, List.length_nil, List.length_set]; omega)))) | ((with_reducible refine wr_u32 rfl ?ha ?hb ?_); (case ha => (first | with_reducible assumption | omega | (simp only [List.length_append, List.length_map, List.length_take, List.length_drop, List.length_cons, List.length_nil, List.length_set]; omega))); (case hb => (first | with_reducible assumption | omega | (simp only [List.length_append, List.length_map, List.length_take, List.length_drop, List.length_cons, List.length_nil, List.length_set]; omega)))) | ((with_reducible refine And.intro ?_ ?_)) | ((with_reducible refine True.intro)) | ((with_reducible refine Stp.go ?_))))); (all_goals (conv => whnf))
          all_goals first
            | (refine ⟨(j + 1, .v (.bool true)), ⟨by simp only; omega, .inr (.inl ⟨rfl, by rw [hA]; simp_all⟩)⟩, by simp only; omega, ?_⟩
               (refine Le.auto ?_; repeat' ((conv => whnf); first | with_reducible refine And.intro ?_ ?_ | with_reducible exact True.intro | rfl))
               done)
            | (refine ⟨(j + 1, .sb (r.cov e.pf)), ⟨by simp only; omega, .inr (.inr (by rw [hA]; simp_all))⟩, by simp only; omega, ?_⟩
               (refine Le.auto ?_; repeat' ((conv => whnf); first | with_reducible refine And.intro ?_ ?_ | with_reducible exact True.intro | rfl))
               done)
        · rw [List.take_of_length_le hjl, hany] at hiv
          rcases hiv with ⟨_, hA0⟩ | ⟨rfl, _⟩ | rfl
          · cases hA0
          all_goals
            (all_goals (repeat' ((conv => whnf); first | (with_reducible refine in_map hlt ?_) | (with_reducible refine in_nat hlt ?_) | (with_reducible refine ix_map he0 ?_) | (with_reducible refine ix_map hz0 ?_) | (with_reducible refine ix_set hset ?_) | ((with_reducible refine sl_full ?ha ?_); (case ha => (first | with_reducible exact Nat.le_refl _ | with_reducible rfl | omega | (simp only [List.length_append, List.length_map, List.length_take, List.length_drop, List.length_cons, List.length_nil, List.length_set]; done) | (simp only [List.length_append, List.length_map, List.length_take, List.length_drop, List.length_cons, List.length_nil, List.length_set]; omega)))) | ((with_reducible refine Ob.intro ?ha ?_); (case ha => (first | (as_aux_lemma => kernel_rfl) | ((try simp only [List.forall_mem_append, List.forall_mem_map, List.forall_mem_cons, List.forall_mem_nil, and_true, true_and]); (repeat' apply And.intro) <;> first | (intros; rfl) | omega | (simp only [List.length_append, List.length_map, List.length_take, List.length_drop, List.length_cons, List.length_nil, List.length_set]; omega) | (intro _ h; cases h))))) | ((with_reducible refine br_lt ?_)) | ((with_reducible refine br_lf ?_)) | ((with_reducible refine br_pos ?ha ?_); (case ha => (first | with_reducible assumption | omega | (simp only [List.length_append, List.length_map, List.length_take, List.length_drop, List.length_cons, List.length_nil, List.length_set]; omega)))) | ((with_reducible refine br_neg ?ha ?_); (case ha => (first | with_reducible assumption | omega | (simp only [List.length_append, List.length_map, List.length_take, List.length_drop, List.length_cons, List.length_nil, List.length_set]; omega)))) | ((with_reducible refine br_t ?ha ?_); (case ha => with_reducible assumption)) | ((with_reducible refine br_f ?ha ?_); (case ha => with_reducible assumption)) | ((with_reducible refine br_dec (fun h => ?_) (fun h => ?_))) | ((with_reducible refine br_not ?_)) | ((with_reducible refine br_b (fun h => ?_) (fun h => ?_))) | ((with_reducible refine wr_i64 rfl ?ha ?hb ?_); (case ha => (first | with_reducible assumption | omega | (simp only [List.length_append, List.length_map, List.length_take, List.length_drop, List.length_cons, List.length_nil, List.length_set]; omega))); (case hb => (first | with_reducible assumption | omega | (simp only [List.length_append, List.length_map, List.length_take, List.length_drop, List.length_cons, List.length_nil, List.length_set]; omega)))) | ((with_reducible refine wr_u64 rfl ?ha ?hb ?_); (case ha => (first | with_reducible assumption | omega | (simp only [List.length_append, List.length_map, List.length_take, List.length_drop, List.length_cons, List.length_nil, List.length_set]; omega))); (case hb => (first | with_reducible assumption | omega | (simp only [List.length_append, List.length_map, List.length_take, List.length_drop, List.length_cons, List.length_nil, List.length_set]; omega)))) | ((with_reducible refine wr_u32 rfl ?ha ?hb ?_); (case ha => (first | with_reducible assumption | omega | (simp only [List.length_append, List.length_map, List.length_take, List.length_drop, List.length_cons, List.length_nil, List.length_set]; omega))); (case hb => (first | with_reducible assumption | omega | (simp only [List.length_append, List.length_map, List.length_take, List.length_drop, List.length_cons, List.length_nil, List.length_set]; omega)))) | ((with_reducible refine And.intro ?_ ?_)) | ((with_reducible refine True.intro)) | ((with_reducible refine Stp.go ?_))))); (all_goals (conv => whnf))
          all_goals
            refine ⟨k + 1, by omega, by omega, ?_⟩
            rw [← harr]
            (refine Le.auto ?_; repeat' ((conv => whnf); first | with_reducible refine And.intro ?_ ?_ | with_reducible exact True.intro | rfl))
      · rcases hat k e e0 he he0 with ⟨_, q1⟩ | ⟨q1, _⟩
        · refine ⟨k + 1, by omega, by omega, ?_⟩
          rw [htk, List.append_assoc, List.singleton_append, q1, ← hd]
          (refine Le.auto ?_; repeat' ((conv => whnf); first | with_reducible refine And.intro ?_ ?_ | with_reducible exact True.intro | rfl))
        · rw [q1] at h; cases h
    · have hk' : k = x.edges.length := by omega
      have hz : es.take k ++ x.edges.drop k = es := by rw [List.take_of_length_le (by omega), List.drop_of_length_le (by omega), List.append_nil]
      rw [hz, ← hlen]
      have hsame : ∀ (K : AV → List Vm.Obj → Prop), K (.sb true) [] → ACall Try.prog 14 [.agg [.lst (x.devs.map encD), .lst (x.links.map encL), .lst (es.map encE), .lst (x.pools.map encP), .v (.int .i64 x.tol)], .agg [.lst (x.devs.map encD), .lst (x.links.map encL), .lst (es.map encE), .lst (x.pools.map encP), .v (.int .i64 x.tol)]] [] K := fun K h =>
        cuSame ⟨x.devs, x.links, es, x.pools, x.tol⟩ ⟨x.devs, x.links, es, x.pools, x.tol⟩ (by simp only; omega) fun b hb => by rw [hb.2 rfl]; exact h
      (all_goals (repeat' ((conv => whnf); first | (with_reducible refine csane ?_) | (with_reducible refine hsame _ ?_) | ((with_reducible refine sl_full ?ha ?_); (case ha => (first | with_reducible exact Nat.le_refl _ | with_reducible rfl | omega | (simp only [List.length_append, List.length_map, List.length_take, List.length_drop, List.length_cons, List.length_nil, List.length_set]; done) | (simp only [List.length_append, List.length_map, List.length_take, List.length_drop, List.length_cons, List.length_nil, List.length_set]; omega)))) | ((with_reducible refine Ob.intro ?ha ?_); (case ha => (first | (as_aux_lemma => kernel_rfl) | ((try simp only [List.forall_mem_append, List.forall_mem_map, List.forall_mem_cons, List.forall_mem_nil, and_true, true_and]); (repeat' apply And.intro) <;> first | (intros; rfl) | omega | (simp only [List.length_append, List.length_map, List.length_take, List.length_drop, List.length_cons, List.length_nil, List.length_set]; omega) | (intro _ h; cases h))))) | ((with_reducible refine br_lt ?_)) | ((with_reducible refine br_lf ?_)) | ((with_reducible refine br_pos ?ha ?_); (case ha => (first | with_reducible assumption | omega | (simp only [List.length_append, List.length_map, List.length_take, List.length_drop, List.length_cons, List.length_nil, List.length_set]; omega)))) | ((with_reducible refine br_neg ?ha ?_); (case ha => (first | with_reducible assumption | omega | (simp only [List.length_append, List.length_map, List.length_take, List.length_drop, List.length_cons, List.length_nil, List.length_set]; omega)))) | ((with_reducible refine br_t ?ha ?_); (case ha => with_reducible assumption)) | ((with_reducible refine br_f ?ha ?_); (case ha => with_reducible assumption)) | ((with_reducible refine br_dec (fun h => ?_) (fun h => ?_))) | ((with_reducible refine br_not ?_)) | ((with_reducible refine br_b (fun h => ?_) (fun h => ?_))) | ((with_reducible refine wr_i64 rfl ?ha ?hb ?_); (case ha => (first | with_reducible assumption | omega | (simp only [List.length_append, List.length_map, List.length_take, List.length_drop, List.length_cons, List.length_nil, List.length_set]; omega))); (case hb => (first | with_reducible assumption | omega | (simp only [List.length_append, List.length_map, List.length_take, List.length_drop, List.length_cons, List.length_nil, List.length_set]; omega)))) | ((with_reducible refine wr_u64 rfl ?ha ?hb ?_); (case ha => (first | with_reducible assumption | omega | (simp only [List.length_append, List.length_map, List.length_take, List.length_drop, List.length_cons, List.length_nil, List.length_set]; omega))); (case hb => (first | with_reducible assumption | omega | (simp only [List.length_append, List.length_map, List.length_take, List.length_drop, List.length_cons, List.length_nil, List.length_set]; omega)))) | ((with_reducible refine wr_u32 rfl ?ha ?hb ?_); (case ha => (first | with_reducible assumption | omega | (simp only [List.length_append, List.length_map, List.length_take, List.length_drop, List.length_cons, List.length_nil, List.length_set]; omega))); (case hb => (first | with_reducible assumption | omega | (simp only [List.length_append, List.length_map, List.length_take, List.length_drop, List.length_cons, List.length_nil, List.length_set]; omega)))) | ((with_reducible refine And.intro ?_ ?_)) | ((with_reducible refine True.intro)) | ((with_reducible refine Stp.go ?_))))); (all_goals (conv => whnf))
      exact yes_sb rfl
end Go.Proofs.Ytgcplfplbcpemaa

set_option linter.unusedVariables false
set_option maxRecDepth 100000
namespace Go.Proofs.Ytgcplfplbcpemaa
open Go Go.Vm Go.ChangeShapes Go.WideShapes Go.ChangeAt Go.RowKit

theorem addressingSound_lifted (os : Os) (started : os.Started) (H : Type) (enc : TypeId × Value → H) :
    ReturnsInHanded {} Try.checked os 4 .any (Rows.addressingSoundSpec.pre6 enc Try.prog Try.f4 Rows.addressingSoundRow.domain false) (Rows.addressingSoundSpec.post enc Try.prog Try.f4 false true false false) := by
  refine returnsInHanded_of_change (C := Try.checked) ownNone started (by kernel_rfl) Try.func4
    (ChangeSpec.witness6 (enc := enc) (C := Try.checked) false ⟨#[], #[.slice none 0 0], []⟩ 8 (by kernel_rfl) (by kernel_rfl) (by kernel_rfl) (by kernel_rfl)) ?_
  intro W base args ds gs before hval hW _ _
  refine law_contract (P := Try.prog) (t := 4) (d := 6) laidOut (by kernel_rfl) (by kernel_rfl) rfl rfl (by kernel_rfl) (fun ds hds => ?_) (fun xs hxs => ?_) hval hW
  · match ds, hds with
    | [d0], _ => rfl
  · match xs, hxs with
    | [a0], ⟨h0, _⟩ =>
      obtain ⟨raw0, rfl, hr0⟩ := ty_is (d := 4) h0
      exact cSound raw0 hr0

theorem addressingSound_holds : Rows.AddressingSoundSaid :=
  OpenClaim.holds_of_wide 4 Try.f4 rfl rfl rfl rfl rfl rfl rfl ⟨rfl, rfl, rfl, rfl, rfl⟩ rfl rfl rfl rfl rfl (by kernel_rfl) Try.func4 (by kernel_rfl)
    (of_decide_eq_true (by kernel_rfl)) (by unfold Func.isWrapper; first | (rw [if_pos (by decide +kernel)]; kernel_rfl) | (rw [if_neg (by decide +kernel)]; exact ⟨rfl, rfl⟩))
    (fun os started H enc _ => addressingSound_lifted os started H enc)

#print axioms addressingSound_holds
end Go.Proofs.Ytgcplfplbcpemaa
