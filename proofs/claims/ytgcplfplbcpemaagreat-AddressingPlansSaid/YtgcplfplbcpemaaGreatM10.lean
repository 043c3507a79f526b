/- The functions of the seat as the machine takes them: contexts, bodies, contracts out of the code. Printed by gsctx.py. Free addresses: contracts. The functions of the seat as the machine takes them: contexts, bodies, contracts out of the code. Printed by gsctx.py. The stable sort of the planned edges. The functions of the seat as the machine takes them: contexts, bodies, contracts out of the code. Printed by gsctx.py. Plan: what it computes. Plan: its contract. -/
import Derived.Test.YtgcplfplbcpemaaGreatProg
import Derived.Test.YtgcplfplbcpemaaGreatM9
set_option linter.unusedVariables false
set_option maxRecDepth 20000
namespace Go.Proofs.YtgcplfplbcpemaaGreat
open Go Go.Vm

/-- netsegment/interval.Intersect -/
noncomputable def g19r : Ctx := { N := 71, np := 0, own := fun _ => false, plan := fun i => match Nat.beq i 5 with | true => some (lin [(0, true), (1, true), (2, true), (3, true), (4, true), (5, true), (6, true), (7, true), (8, true), (9, true), (10, true), (11, true), (12, true), (13, true), (14, true), (15, true), (16, true), (17, true), (18, true), (19, true), (20, true), (21, true), (22, true), (23, true)]) | false => match Nat.beq i 8 with | true => some (lin [(0, true), (1, true), (2, true), (3, true), (4, true), (5, true), (6, true), (7, true), (8, true), (9, true), (10, true)]) | false => none, hints := fun i => match Nat.beq i 3 with | true => [.virt 5 2] | false => [], cut := fun _ => false, res := true }
noncomputable def b19r : Code := match Tryz.f54.body with | some c => c | none => .skip
theorem of19r {args : List AV} {hs : List Vm.Obj} {K : AV → List Vm.Obj → Prop} (hp : Nat.beq g19r.np hs.length = true) (ha : Nat.ble args.length 71 = true) (hq : initQ hs args fun σ => codeQ Tryz.prog g19r b19r σ (retQ Tryz.prog g19r Tryz.f54.results.toList K)) : ACall Tryz.prog 54 args hs K :=
  ACall.of_code (Γ := g19r) Tryz.func54 (by kernel_rfl) (by kernel_rfl) (by kernel_rfl) (by kernel_rfl) (Nat.eq_of_beq_eq_true hp) ha hq
/-- netsegment/interval.Subtract -/
noncomputable def g24r : Ctx := { N := 9, np := 0, own := fun i => match Nat.beq i 54 with | true => true | false => false, plan := fun _ => none, hints := fun _ => [], cut := fun _ => false, res := true }
noncomputable def b24r : Code := match Tryz.f35.body with | some c => c | none => .skip
theorem of24r {args : List AV} {hs : List Vm.Obj} {K : AV → List Vm.Obj → Prop} (hp : Nat.beq g24r.np hs.length = true) (ha : Nat.ble args.length 9 = true) (hq : initQ hs args fun σ => codeQ Tryz.prog g24r b24r σ (retQ Tryz.prog g24r Tryz.f35.results.toList K)) : ACall Tryz.prog 35 args hs K :=
  ACall.of_code (Γ := g24r) Tryz.func35 (by kernel_rfl) (by kernel_rfl) (by kernel_rfl) (by kernel_rfl) (Nat.eq_of_beq_eq_true hp) ha hq
/-- slices.Clone[[]netsegment/api.Device,netsegment/api.Device] -/
noncomputable def gclD : Ctx := { N := 8, np := 0, own := fun _ => false, plan := fun _ => none, hints := fun _ => [], cut := fun _ => false }
noncomputable def bclD : Code := match Tryz.f26.body with | some c => c | none => .skip
theorem ofclD {args : List AV} {hs : List Vm.Obj} {K : AV → List Vm.Obj → Prop} (hp : Nat.beq gclD.np hs.length = true) (ha : Nat.ble args.length 8 = true) (hq : initQ hs args fun σ => codeQ Tryz.prog gclD bclD σ (retQ Tryz.prog gclD Tryz.f26.results.toList K)) : ACall Tryz.prog 26 args hs K :=
  ACall.of_code (Γ := gclD) Tryz.func26 (by kernel_rfl) (by kernel_rfl) (by kernel_rfl) (by kernel_rfl) (Nat.eq_of_beq_eq_true hp) ha hq
/-- slices.Clone[[]netsegment/api.Link,netsegment/api.Link] -/
noncomputable def gclL : Ctx := { N := 8, np := 0, own := fun _ => false, plan := fun _ => none, hints := fun _ => [], cut := fun _ => false }
noncomputable def bclL : Code := match Tryz.f27.body with | some c => c | none => .skip
theorem ofclL {args : List AV} {hs : List Vm.Obj} {K : AV → List Vm.Obj → Prop} (hp : Nat.beq gclL.np hs.length = true) (ha : Nat.ble args.length 8 = true) (hq : initQ hs args fun σ => codeQ Tryz.prog gclL bclL σ (retQ Tryz.prog gclL Tryz.f27.results.toList K)) : ACall Tryz.prog 27 args hs K :=
  ACall.of_code (Γ := gclL) Tryz.func27 (by kernel_rfl) (by kernel_rfl) (by kernel_rfl) (by kernel_rfl) (Nat.eq_of_beq_eq_true hp) ha hq
/-- slices.Clone[[]netsegment/api.Edge,netsegment/api.Edge] -/
noncomputable def gclE : Ctx := { N := 8, np := 0, own := fun _ => false, plan := fun _ => none, hints := fun _ => [], cut := fun _ => false, res := true }
noncomputable def bclE : Code := match Tryz.f28.body with | some c => c | none => .skip
theorem ofclE {args : List AV} {hs : List Vm.Obj} {K : AV → List Vm.Obj → Prop} (hp : Nat.beq gclE.np hs.length = true) (ha : Nat.ble args.length 8 = true) (hq : initQ hs args fun σ => codeQ Tryz.prog gclE bclE σ (retQ Tryz.prog gclE Tryz.f28.results.toList K)) : ACall Tryz.prog 28 args hs K :=
  ACall.of_code (Γ := gclE) Tryz.func28 (by kernel_rfl) (by kernel_rfl) (by kernel_rfl) (by kernel_rfl) (Nat.eq_of_beq_eq_true hp) ha hq
/-- slices.Clone[[]netsegment/api.Prefix,netsegment/api.Prefix] -/
noncomputable def gclP : Ctx := { N := 8, np := 0, own := fun _ => false, plan := fun _ => none, hints := fun _ => [], cut := fun _ => false }
noncomputable def bclP : Code := match Tryz.f29.body with | some c => c | none => .skip
theorem ofclP {args : List AV} {hs : List Vm.Obj} {K : AV → List Vm.Obj → Prop} (hp : Nat.beq gclP.np hs.length = true) (ha : Nat.ble args.length 8 = true) (hq : initQ hs args fun σ => codeQ Tryz.prog gclP bclP σ (retQ Tryz.prog gclP Tryz.f29.results.toList K)) : ACall Tryz.prog 29 args hs K :=
  ACall.of_code (Γ := gclP) Tryz.func29 (by kernel_rfl) (by kernel_rfl) (by kernel_rfl) (by kernel_rfl) (Nat.eq_of_beq_eq_true hp) ha hq
/-- netsegment/addressing.free -/
noncomputable def gaFree : Ctx := { N := 54, np := 0, own := fun i => match Nat.beq i 35 with | true => true | false => false, plan := fun _ => none, hints := fun i => match Nat.beq i 2 with | true => [.virt 3 2, .virt 4 2] | false => match Nat.beq i 15 with | true => [.freeze 3, .freeze 4] | false => [], cut := fun _ => false, res := true }
noncomputable def baFree : Code := match Tryz.f33.body with | some c => c | none => .skip
theorem ofaFree {args : List AV} {hs : List Vm.Obj} {K : AV → List Vm.Obj → Prop} (hp : Nat.beq gaFree.np hs.length = true) (ha : Nat.ble args.length 54 = true) (hq : initQ hs args fun σ => codeQ Tryz.prog gaFree baFree σ (retQ Tryz.prog gaFree Tryz.f33.results.toList K)) : ACall Tryz.prog 33 args hs K :=
  ACall.of_code (Γ := gaFree) Tryz.func33 (by kernel_rfl) (by kernel_rfl) (by kernel_rfl) (by kernel_rfl) (Nat.eq_of_beq_eq_true hp) ha hq
/-- netsegment/addressing.lowest -/
noncomputable def gaLow : Ctx := { N := 48, np := 0, own := fun _ => false, plan := fun _ => none, hints := fun _ => [], cut := fun _ => false }
noncomputable def baLow : Code := match Tryz.f34.body with | some c => c | none => .skip
theorem ofaLow {args : List AV} {hs : List Vm.Obj} {K : AV → List Vm.Obj → Prop} (hp : Nat.beq gaLow.np hs.length = true) (ha : Nat.ble args.length 48 = true) (hq : initQ hs args fun σ => codeQ Tryz.prog gaLow baLow σ (retQ Tryz.prog gaLow Tryz.f34.results.toList K)) : ACall Tryz.prog 34 args hs K :=
  ACall.of_code (Γ := gaLow) Tryz.func34 (by kernel_rfl) (by kernel_rfl) (by kernel_rfl) (by kernel_rfl) (Nat.eq_of_beq_eq_true hp) ha hq

end Go.Proofs.YtgcplfplbcpemaaGreat

set_option linter.unusedVariables false
set_option linter.unusedSimpArgs false
set_option maxRecDepth 20000
namespace Go.Proofs.YtgcplfplbcpemaaGreat
open Go Go.Vm

/-- interval.Intersect -/
theorem c19r (a b : List Rg) (ha : a.length < 10000) (hb : b.length < 10000) {K : AV → List Vm.Obj → Prop}
    (hK : ∀ out, Canon out → (∀ v, has out v = (has a v && has b v)) → out.length ≤ a.length + b.length → K (.os 0 2 0 out.length) [.arr 2 (out.map encR)]) : ACall Tryz.prog 54 [encRs a, encRs b] [] K := by
  refine of19r rfl rfl ?_
  (conv => whnf)
  refine k39 a (by omega) fun A g1 g2 g3 => ?_
  (conv => whnf)
  refine k39 b (by omega) fun B f1 f2 f3 => ?_
  (conv => whnf)
  refine Lp.intro (Nat × Nat × List Rg) (fun g => ⟨1, [(0, .arr 2 (g.2.2.map encR))], [(0, encRs A), (1, encRs B), (5, .os 0 2 0 g.2.2.length), (6, .v (.int .i64 g.1)), (7, .v (.int .i64 g.2.1))]⟩)
    (fun g => g.1 ≤ A.length ∧ g.2.1 ≤ B.length ∧ IInv A B g.1 g.2.1 g.2.2) (fun g => (A.length - g.1) + (B.length - g.2.1)) (0, 0, []) ?_ ?_ ?_
  · exact ⟨Nat.zero_le _, Nat.zero_le _, canon_nil, fun s hs => by simp at hs, fun v => by simp [has_nil], Nat.le_refl _⟩
  · exact ⟨[(0, 0)], rfl, ⟨rfl, rfl, rfl, rfl, rfl, trivial⟩, ⟨rfl, trivial⟩⟩
  · rintro ⟨i, j, out⟩ ⟨hi, hj, hinv⟩
    simp only at hi hj hinv ⊢
    have hlen := hinv.len
    have fin : (∀ v, (has (A.drop i) v && has (B.drop j) v) = false) → K (.os 0 2 0 out.length) [.arr 2 (out.map encR)] := fun he =>
      hK out hinv.canon (fun v => by rw [← g2, ← f2, hinv.mem, he, Bool.or_false]) (by omega)
    rcases Nat.lt_or_ge i A.length with hil | hil
    · rcases Nat.lt_or_ge j B.length with hjl | hjl
      · obtain ⟨r, hr⟩ : ∃ r, A[i]? = some r := ⟨_, List.getElem?_eq_getElem hil⟩
        obtain ⟨s, hs⟩ : ∃ s, B[j]? = some s := ⟨_, List.getElem?_eq_getElem hjl⟩
        have b1 := r.l0; have b2 := r.l1; have b3 := r.h0; have b4 := r.h1
        have d1 := s.l0; have d2 := s.l1; have d3 := s.h0; have d4 := s.h1
        have e0 : max r.lo s.lo ≤ min r.hi s.hi → cross out r s = out ++ [mkR (max r.lo s.lo) (min r.hi s.hi)] := fun h => by unfold cross; rw [if_pos h]
        have e1 : ¬ max r.lo s.lo ≤ min r.hi s.hi → cross out r s = out := fun h => by unfold cross; rw [if_neg h]
        have e2 := enc_mkR (show 0 ≤ max r.lo s.lo by omega) (by omega) (show 0 ≤ min r.hi s.hi by omega) (by omega)
        iterate 90 (all_goals ((conv => whnf); first | (with_reducible refine in_map hil ?_) | (with_reducible refine in_map hjl ?_) | (with_reducible refine ix_map hr ?_) | (with_reducible refine ix_map hs ?_) | ((with_reducible refine sl_full ?ha ?_); (case ha => exact gA)) | ((with_reducible refine Ob.intro ?ha ?_); (case ha => exact gC)) | ((with_reducible refine br_lt ?_)) | ((with_reducible refine br_lf ?_)) | ((with_reducible refine br_pos ?ha ?_); (case ha => exact gB)) | ((with_reducible refine br_neg ?ha ?_); (case ha => exact gB)) | ((with_reducible refine br_t ?ha ?_); (case ha => with_reducible assumption)) | ((with_reducible refine br_f ?ha ?_); (case ha => with_reducible assumption)) | ((with_reducible refine br_dec (fun h => ?_) (fun h => ?_))) | ((with_reducible refine br_not ?_)) | ((with_reducible refine br_b (fun h => ?_) (fun h => ?_))) | ((with_reducible refine wr_i64 rfl ?ha ?hb ?_); (case ha => exact gB); (case hb => exact gB)) | ((with_reducible refine wr_u64 rfl ?ha ?hb ?_); (case ha => exact gB); (case hb => exact gB)) | ((with_reducible refine wr_u32 rfl ?ha ?hb ?_); (case ha => exact gB); (case hb => exact gB)) | ((with_reducible refine And.intro ?_ ?_)) | ((with_reducible refine True.intro)) | ((with_reducible refine Stp.go ?_)) | skip))
        · have h := iinv_left g1 f1 hinv hr hs (by assumption)
          rw [e0 (by assumption)] at h
          refine ⟨(i + 1, j, out ++ [mkR (max r.lo s.lo) (min r.hi s.hi)]), ⟨by simp only; omega, hj, h⟩, by simp only; omega, ?_⟩
          simp only [List.map_append, List.map_cons, List.map_nil, List.length_append, List.length_cons, List.length_nil]
          rw [e2]
          exact ⟨[(0, 2)], rfl, ⟨rfl, rfl, rfl, rfl, rfl, trivial⟩, ⟨rfl, trivial⟩⟩
        · have h := iinv_right g1 f1 hinv hr hs (by omega)
          rw [e0 (by assumption)] at h
          refine ⟨(i, j + 1, out ++ [mkR (max r.lo s.lo) (min r.hi s.hi)]), ⟨hi, by simp only; omega, h⟩, by simp only; omega, ?_⟩
          simp only [List.map_append, List.map_cons, List.map_nil, List.length_append, List.length_cons, List.length_nil]
          rw [e2]
          exact ⟨[(0, 2)], rfl, ⟨rfl, rfl, rfl, rfl, rfl, trivial⟩, ⟨rfl, trivial⟩⟩
        · have h := iinv_left g1 f1 hinv hr hs (by assumption)
          rw [e1 (by assumption)] at h
          exact ⟨(i + 1, j, out), ⟨by simp only; omega, hj, h⟩, by simp only; omega, ⟨[(0, 0)], rfl, ⟨rfl, rfl, rfl, rfl, rfl, trivial⟩, ⟨rfl, trivial⟩⟩⟩
        · have h := iinv_right g1 f1 hinv hr hs (by omega)
          rw [e1 (by assumption)] at h
          exact ⟨(i, j + 1, out), ⟨hi, by simp only; omega, h⟩, by simp only; omega, ⟨[(0, 0)], rfl, ⟨rfl, rfl, rfl, rfl, rfl, trivial⟩, ⟨rfl, trivial⟩⟩⟩
      · iterate 10 (all_goals ((conv => whnf); first | (with_reducible refine in_map hil ?_) | (with_reducible refine in_map hjl ?_) | ((with_reducible refine sl_full ?ha ?_); (case ha => exact gA)) | ((with_reducible refine Ob.intro ?ha ?_); (case ha => exact gC)) | ((with_reducible refine br_lt ?_)) | ((with_reducible refine br_lf ?_)) | ((with_reducible refine br_pos ?ha ?_); (case ha => exact gB)) | ((with_reducible refine br_neg ?ha ?_); (case ha => exact gB)) | ((with_reducible refine br_t ?ha ?_); (case ha => with_reducible assumption)) | ((with_reducible refine br_f ?ha ?_); (case ha => with_reducible assumption)) | ((with_reducible refine br_dec (fun h => ?_) (fun h => ?_))) | ((with_reducible refine br_not ?_)) | ((with_reducible refine br_b (fun h => ?_) (fun h => ?_))) | ((with_reducible refine wr_i64 rfl ?ha ?hb ?_); (case ha => exact gB); (case hb => exact gB)) | ((with_reducible refine wr_u64 rfl ?ha ?hb ?_); (case ha => exact gB); (case hb => exact gB)) | ((with_reducible refine wr_u32 rfl ?ha ?hb ?_); (case ha => exact gB); (case hb => exact gB)) | ((with_reducible refine And.intro ?_ ?_)) | ((with_reducible refine True.intro)) | ((with_reducible refine Stp.go ?_)) | skip))
        exact fin fun v => by rw [List.drop_of_length_le hjl, has_nil, Bool.and_false]
    · iterate 10 (all_goals ((conv => whnf); first | (with_reducible refine in_map hil ?_) | ((with_reducible refine sl_full ?ha ?_); (case ha => exact gA)) | ((with_reducible refine Ob.intro ?ha ?_); (case ha => exact gC)) | ((with_reducible refine br_lt ?_)) | ((with_reducible refine br_lf ?_)) | ((with_reducible refine br_pos ?ha ?_); (case ha => exact gB)) | ((with_reducible refine br_neg ?ha ?_); (case ha => exact gB)) | ((with_reducible refine br_t ?ha ?_); (case ha => with_reducible assumption)) | ((with_reducible refine br_f ?ha ?_); (case ha => with_reducible assumption)) | ((with_reducible refine br_dec (fun h => ?_) (fun h => ?_))) | ((with_reducible refine br_not ?_)) | ((with_reducible refine br_b (fun h => ?_) (fun h => ?_))) | ((with_reducible refine wr_i64 rfl ?ha ?hb ?_); (case ha => exact gB); (case hb => exact gB)) | ((with_reducible refine wr_u64 rfl ?ha ?hb ?_); (case ha => exact gB); (case hb => exact gB)) | ((with_reducible refine wr_u32 rfl ?ha ?hb ?_); (case ha => exact gB); (case hb => exact gB)) | ((with_reducible refine And.intro ?_ ?_)) | ((with_reducible refine True.intro)) | ((with_reducible refine Stp.go ?_)) | skip))
      exact fin fun v => by rw [List.drop_of_length_le hil, has_nil, Bool.false_and]

/-- interval.Subtract -/
theorem c24r (a b : List Rg) (ha : a.length < 9000) (hb : b.length < 9000) {K : AV → List Vm.Obj → Prop}
    (hK : ∀ out, Canon out → (∀ v, has out v = (has a v && !has b v)) → out.length ≤ a.length + b.length + 1 → K (.os 0 2 0 out.length) [.arr 2 (out.map encR)]) : ACall Tryz.prog 35 [encRs a, encRs b] [] K := by
  refine of24r rfl rfl ?_
  (conv => whnf)
  refine c23 b 4294967295 (by decide) (by decide) (by omega) fun n g1 g2 g3 => ?_
  (conv => whnf)
  refine c19r a n (by omega) (by omega) fun c h1 h2 h3 => ?_
  (conv => whnf)
  refine hK c h1 (fun v => ?_) (by omega)
  rw [h2, g2]
  cases ha : has a v with
  | false => rfl
  | true =>
    have hb := has_bounds ha
    rw [show decide (0 ≤ v) = true from decide_eq_true (by omega), show decide (v ≤ 4294967295) = true from decide_eq_true (by omega)]
    rfl
/-- slices.Clone[[]netsegment/api.Device,netsegment/api.Device] -/
theorem cclD (l : List Dv) (hl : l.length < 1000) {K : AV → List Vm.Obj → Prop} (hK : K (.lst (l.map encD)) []) : ACall Tryz.prog 26 [.lst (l.map encD)] [] K := by
  refine ACall.weak (ofclD rfl rfl ?_)
  iterate 4 (all_goals ((conv => whnf); first | ((with_reducible refine sl_full ?ha ?_); (case ha => exact gA)) | ((with_reducible refine Ob.intro ?ha ?_); (case ha => exact gC)) | ((with_reducible refine br_lt ?_)) | ((with_reducible refine br_lf ?_)) | ((with_reducible refine br_pos ?ha ?_); (case ha => exact gB)) | ((with_reducible refine br_neg ?ha ?_); (case ha => exact gB)) | ((with_reducible refine br_t ?ha ?_); (case ha => with_reducible assumption)) | ((with_reducible refine br_f ?ha ?_); (case ha => with_reducible assumption)) | ((with_reducible refine br_dec (fun h => ?_) (fun h => ?_))) | ((with_reducible refine br_not ?_)) | ((with_reducible refine br_b (fun h => ?_) (fun h => ?_))) | ((with_reducible refine wr_i64 rfl ?ha ?hb ?_); (case ha => exact gB); (case hb => exact gB)) | ((with_reducible refine wr_u64 rfl ?ha ?hb ?_); (case ha => exact gB); (case hb => exact gB)) | ((with_reducible refine wr_u32 rfl ?ha ?hb ?_); (case ha => exact gB); (case hb => exact gB)) | ((with_reducible refine And.intro ?_ ?_)) | ((with_reducible refine True.intro)) | ((with_reducible refine Stp.go ?_)) | skip))
  intro b hb
  iterate 16 (all_goals ((conv => whnf); first | ((with_reducible refine sl_full ?ha ?_); (case ha => exact gA)) | ((with_reducible refine Ob.intro ?ha ?_); (case ha => exact gC)) | ((with_reducible refine br_lt ?_)) | ((with_reducible refine br_lf ?_)) | ((with_reducible refine br_pos ?ha ?_); (case ha => exact gB)) | ((with_reducible refine br_neg ?ha ?_); (case ha => exact gB)) | ((with_reducible refine br_t ?ha ?_); (case ha => with_reducible assumption)) | ((with_reducible refine br_f ?ha ?_); (case ha => with_reducible assumption)) | ((with_reducible refine br_dec (fun h => ?_) (fun h => ?_))) | ((with_reducible refine br_not ?_)) | ((with_reducible refine br_b (fun h => ?_) (fun h => ?_))) | ((with_reducible refine wr_i64 rfl ?ha ?hb ?_); (case ha => exact gB); (case hb => exact gB)) | ((with_reducible refine wr_u64 rfl ?ha ?hb ?_); (case ha => exact gB); (case hb => exact gB)) | ((with_reducible refine wr_u32 rfl ?ha ?hb ?_); (case ha => exact gB); (case hb => exact gB)) | ((with_reducible refine And.intro ?_ ?_)) | ((with_reducible refine True.intro)) | ((with_reducible refine Stp.go ?_)) | skip))
  · have e := List.map_eq_nil_iff.1 (hb (by assumption))
    subst e
    exact ⟨_, Weak.nils, hK⟩
  · exact ⟨_, .refl, hK⟩
/-- slices.Clone[[]netsegment/api.Link,netsegment/api.Link] -/
theorem cclL (l : List Lk) (hl : l.length < 1000) {K : AV → List Vm.Obj → Prop} (hK : K (.lst (l.map encL)) []) : ACall Tryz.prog 27 [.lst (l.map encL)] [] K := by
  refine ACall.weak (ofclL rfl rfl ?_)
  iterate 4 (all_goals ((conv => whnf); first | ((with_reducible refine sl_full ?ha ?_); (case ha => exact gA)) | ((with_reducible refine Ob.intro ?ha ?_); (case ha => exact gC)) | ((with_reducible refine br_lt ?_)) | ((with_reducible refine br_lf ?_)) | ((with_reducible refine br_pos ?ha ?_); (case ha => exact gB)) | ((with_reducible refine br_neg ?ha ?_); (case ha => exact gB)) | ((with_reducible refine br_t ?ha ?_); (case ha => with_reducible assumption)) | ((with_reducible refine br_f ?ha ?_); (case ha => with_reducible assumption)) | ((with_reducible refine br_dec (fun h => ?_) (fun h => ?_))) | ((with_reducible refine br_not ?_)) | ((with_reducible refine br_b (fun h => ?_) (fun h => ?_))) | ((with_reducible refine wr_i64 rfl ?ha ?hb ?_); (case ha => exact gB); (case hb => exact gB)) | ((with_reducible refine wr_u64 rfl ?ha ?hb ?_); (case ha => exact gB); (case hb => exact gB)) | ((with_reducible refine wr_u32 rfl ?ha ?hb ?_); (case ha => exact gB); (case hb => exact gB)) | ((with_reducible refine And.intro ?_ ?_)) | ((with_reducible refine True.intro)) | ((with_reducible refine Stp.go ?_)) | skip))
  intro b hb
  iterate 16 (all_goals ((conv => whnf); first | ((with_reducible refine sl_full ?ha ?_); (case ha => exact gA)) | ((with_reducible refine Ob.intro ?ha ?_); (case ha => exact gC)) | ((with_reducible refine br_lt ?_)) | ((with_reducible refine br_lf ?_)) | ((with_reducible refine br_pos ?ha ?_); (case ha => exact gB)) | ((with_reducible refine br_neg ?ha ?_); (case ha => exact gB)) | ((with_reducible refine br_t ?ha ?_); (case ha => with_reducible assumption)) | ((with_reducible refine br_f ?ha ?_); (case ha => with_reducible assumption)) | ((with_reducible refine br_dec (fun h => ?_) (fun h => ?_))) | ((with_reducible refine br_not ?_)) | ((with_reducible refine br_b (fun h => ?_) (fun h => ?_))) | ((with_reducible refine wr_i64 rfl ?ha ?hb ?_); (case ha => exact gB); (case hb => exact gB)) | ((with_reducible refine wr_u64 rfl ?ha ?hb ?_); (case ha => exact gB); (case hb => exact gB)) | ((with_reducible refine wr_u32 rfl ?ha ?hb ?_); (case ha => exact gB); (case hb => exact gB)) | ((with_reducible refine And.intro ?_ ?_)) | ((with_reducible refine True.intro)) | ((with_reducible refine Stp.go ?_)) | skip))
  · have e := List.map_eq_nil_iff.1 (hb (by assumption))
    subst e
    exact ⟨_, Weak.nils, hK⟩
  · exact ⟨_, .refl, hK⟩
/-- slices.Clone[[]netsegment/api.Prefix,netsegment/api.Prefix] -/
theorem cclP (l : List Pf) (hl : l.length < 1000) {K : AV → List Vm.Obj → Prop} (hK : K (.lst (l.map encP)) []) : ACall Tryz.prog 29 [.lst (l.map encP)] [] K := by
  refine ACall.weak (ofclP rfl rfl ?_)
  iterate 4 (all_goals ((conv => whnf); first | ((with_reducible refine sl_full ?ha ?_); (case ha => exact gA)) | ((with_reducible refine Ob.intro ?ha ?_); (case ha => exact gC)) | ((with_reducible refine br_lt ?_)) | ((with_reducible refine br_lf ?_)) | ((with_reducible refine br_pos ?ha ?_); (case ha => exact gB)) | ((with_reducible refine br_neg ?ha ?_); (case ha => exact gB)) | ((with_reducible refine br_t ?ha ?_); (case ha => with_reducible assumption)) | ((with_reducible refine br_f ?ha ?_); (case ha => with_reducible assumption)) | ((with_reducible refine br_dec (fun h => ?_) (fun h => ?_))) | ((with_reducible refine br_not ?_)) | ((with_reducible refine br_b (fun h => ?_) (fun h => ?_))) | ((with_reducible refine wr_i64 rfl ?ha ?hb ?_); (case ha => exact gB); (case hb => exact gB)) | ((with_reducible refine wr_u64 rfl ?ha ?hb ?_); (case ha => exact gB); (case hb => exact gB)) | ((with_reducible refine wr_u32 rfl ?ha ?hb ?_); (case ha => exact gB); (case hb => exact gB)) | ((with_reducible refine And.intro ?_ ?_)) | ((with_reducible refine True.intro)) | ((with_reducible refine Stp.go ?_)) | skip))
  intro b hb
  iterate 16 (all_goals ((conv => whnf); first | ((with_reducible refine sl_full ?ha ?_); (case ha => exact gA)) | ((with_reducible refine Ob.intro ?ha ?_); (case ha => exact gC)) | ((with_reducible refine br_lt ?_)) | ((with_reducible refine br_lf ?_)) | ((with_reducible refine br_pos ?ha ?_); (case ha => exact gB)) | ((with_reducible refine br_neg ?ha ?_); (case ha => exact gB)) | ((with_reducible refine br_t ?ha ?_); (case ha => with_reducible assumption)) | ((with_reducible refine br_f ?ha ?_); (case ha => with_reducible assumption)) | ((with_reducible refine br_dec (fun h => ?_) (fun h => ?_))) | ((with_reducible refine br_not ?_)) | ((with_reducible refine br_b (fun h => ?_) (fun h => ?_))) | ((with_reducible refine wr_i64 rfl ?ha ?hb ?_); (case ha => exact gB); (case hb => exact gB)) | ((with_reducible refine wr_u64 rfl ?ha ?hb ?_); (case ha => exact gB); (case hb => exact gB)) | ((with_reducible refine wr_u32 rfl ?ha ?hb ?_); (case ha => exact gB); (case hb => exact gB)) | ((with_reducible refine And.intro ?_ ?_)) | ((with_reducible refine True.intro)) | ((with_reducible refine Stp.go ?_)) | skip))
  · have e := List.map_eq_nil_iff.1 (hb (by assumption))
    subst e
    exact ⟨_, Weak.nils, hK⟩
  · exact ⟨_, .refl, hK⟩
/-- slices.Clone of edges -/
theorem cclE (l : List Ed) (hl : l.length < 1000) {K : AV → List Vm.Obj → Prop} (hK1 : l = [] → K .nils []) (hK : K (.os 0 6 0 l.length) [.arr 6 (l.map encE)]) : ACall Tryz.prog 28 [.lst (l.map encE)] [] K := by
  refine ofclE rfl rfl ?_
  iterate 4 (all_goals ((conv => whnf); first | ((with_reducible refine sl_full ?ha ?_); (case ha => exact gA)) | ((with_reducible refine Ob.intro ?ha ?_); (case ha => exact gC)) | ((with_reducible refine br_lt ?_)) | ((with_reducible refine br_lf ?_)) | ((with_reducible refine br_pos ?ha ?_); (case ha => exact gB)) | ((with_reducible refine br_neg ?ha ?_); (case ha => exact gB)) | ((with_reducible refine br_t ?ha ?_); (case ha => with_reducible assumption)) | ((with_reducible refine br_f ?ha ?_); (case ha => with_reducible assumption)) | ((with_reducible refine br_dec (fun h => ?_) (fun h => ?_))) | ((with_reducible refine br_not ?_)) | ((with_reducible refine br_b (fun h => ?_) (fun h => ?_))) | ((with_reducible refine wr_i64 rfl ?ha ?hb ?_); (case ha => exact gB); (case hb => exact gB)) | ((with_reducible refine wr_u64 rfl ?ha ?hb ?_); (case ha => exact gB); (case hb => exact gB)) | ((with_reducible refine wr_u32 rfl ?ha ?hb ?_); (case ha => exact gB); (case hb => exact gB)) | ((with_reducible refine And.intro ?_ ?_)) | ((with_reducible refine True.intro)) | ((with_reducible refine Stp.go ?_)) | skip))
  intro b hb
  iterate 16 (all_goals ((conv => whnf); first | ((with_reducible refine sl_full ?ha ?_); (case ha => exact gA)) | ((with_reducible refine Ob.intro ?ha ?_); (case ha => exact gC)) | ((with_reducible refine br_lt ?_)) | ((with_reducible refine br_lf ?_)) | ((with_reducible refine br_pos ?ha ?_); (case ha => exact gB)) | ((with_reducible refine br_neg ?ha ?_); (case ha => exact gB)) | ((with_reducible refine br_t ?ha ?_); (case ha => with_reducible assumption)) | ((with_reducible refine br_f ?ha ?_); (case ha => with_reducible assumption)) | ((with_reducible refine br_dec (fun h => ?_) (fun h => ?_))) | ((with_reducible refine br_not ?_)) | ((with_reducible refine br_b (fun h => ?_) (fun h => ?_))) | ((with_reducible refine wr_i64 rfl ?ha ?hb ?_); (case ha => exact gB); (case hb => exact gB)) | ((with_reducible refine wr_u64 rfl ?ha ?hb ?_); (case ha => exact gB); (case hb => exact gB)) | ((with_reducible refine wr_u32 rfl ?ha ?hb ?_); (case ha => exact gB); (case hb => exact gB)) | ((with_reducible refine And.intro ?_ ?_)) | ((with_reducible refine True.intro)) | ((with_reducible refine Stp.go ?_)) | skip))
  · exact hK1 (List.map_eq_nil_iff.1 (hb (by assumption)))
  · have e : 0 + (l.map encE).length = l.length := by rw [List.length_map]; omega
    show K (.os 0 6 0 (0 + (l.map encE).length)) [.arr 6 (l.map encE)]
    rw [e]
    exact hK

theorem rg_has {l : List Pf} (h : ∀ p, p ∈ l → p.okP) (v : Int) : has (l.map Pf.rg) v = l.any fun p => p.has v := by
  rw [Bool.eq_iff_iff, has_iff, List.any_eq_true]
  constructor
  · rintro ⟨r, hr, h1, h2⟩
    obtain ⟨p, hp, rfl⟩ := List.mem_map.1 hr
    exact ⟨p, hp, by simp [Pf.has, h p hp, h1, h2]⟩
  · rintro ⟨p, hp, h1⟩
    simp only [Pf.has, Bool.and_eq_true, decide_eq_true_eq] at h1
    exact ⟨_, List.mem_map_of_mem hp, h1.2.1, h1.2.2⟩
/-- addressing.free -/
theorem caFree (t : Tp) (hp : ∀ p, p ∈ t.pools → p.okP) (he : ∀ e, e ∈ t.edges → e.pf.okP) (lp : t.pools.length ≤ 8) (le : t.edges.length ≤ 12) {K : AV → List Vm.Obj → Prop}
    (hK : ∀ out, Canon out → (∀ v, has out v = ((t.pools.any fun p => p.has v) && !((fixed t.edges).any fun p => p.has v))) → out.length ≤ 21 → K (.os 0 2 0 out.length) [.arr 2 (out.map encR)]) :
    ACall Tryz.prog 33 [encT t] [] K := by
  refine ofaFree rfl rfl ?_
  iterate 9 (all_goals ((conv => whnf); first | ((with_reducible refine sl_full ?ha ?_); (case ha => exact gA)) | ((with_reducible refine Ob.intro ?ha ?_); (case ha => exact gC)) | ((with_reducible refine br_lt ?_)) | ((with_reducible refine br_lf ?_)) | ((with_reducible refine br_pos ?ha ?_); (case ha => exact gB)) | ((with_reducible refine br_neg ?ha ?_); (case ha => exact gB)) | ((with_reducible refine br_t ?ha ?_); (case ha => with_reducible assumption)) | ((with_reducible refine br_f ?ha ?_); (case ha => with_reducible assumption)) | ((with_reducible refine br_dec (fun h => ?_) (fun h => ?_))) | ((with_reducible refine br_not ?_)) | ((with_reducible refine br_b (fun h => ?_) (fun h => ?_))) | ((with_reducible refine wr_i64 rfl ?ha ?hb ?_); (case ha => exact gB); (case hb => exact gB)) | ((with_reducible refine wr_u64 rfl ?ha ?hb ?_); (case ha => exact gB); (case hb => exact gB)) | ((with_reducible refine wr_u32 rfl ?ha ?hb ?_); (case ha => exact gB); (case hb => exact gB)) | ((with_reducible refine And.intro ?_ ?_)) | ((with_reducible refine True.intro)) | ((with_reducible refine Stp.go ?_)) | skip))
  refine Lp.intro Nat (fun k => ⟨3, [(2, .arr 2 []), (1, .arr 2 (((t.pools.take k).map Pf.rg).map encR)), (0, boxT t)], [(1, .op 0 0), (3, .os 1 2 0 ((t.pools.take k).map Pf.rg).length), (4, .os 2 2 0 0), (14, .lst (t.pools.map encP)), (15, .v (.int .i64 (t.pools.map encP).length)), (16, .v (.int .i64 k))]⟩) (fun k => k ≤ t.pools.length) (fun k => t.pools.length - k) 0 ?_ ?_ ?_
  · exact Nat.zero_le _
  · exact ⟨[(0, 0), (1, 1), (2, 2)], rfl, ⟨rfl, rfl, rfl, rfl, rfl, rfl, trivial⟩, rfl, rfl, rfl, trivial⟩
  intro k hk
  rcases Nat.lt_or_ge k t.pools.length with hkl | hkl
  · obtain ⟨r, hr⟩ : ∃ r, t.pools[k]? = some r := ⟨_, List.getElem?_eq_getElem hkl⟩
    have hlen : ((t.pools.take k).map Pf.rg).length = k := by simp; omega
    iterate 40 (all_goals ((conv => whnf); first | (with_reducible refine in_map hkl ?_) | (with_reducible refine ix_map hr ?_) | (with_reducible refine cpOf r ?_) | ((with_reducible refine sl_full ?ha ?_); (case ha => exact gA)) | ((with_reducible refine Ob.intro ?ha ?_); (case ha => exact gC)) | ((with_reducible refine br_lt ?_)) | ((with_reducible refine br_lf ?_)) | ((with_reducible refine br_pos ?ha ?_); (case ha => exact gB)) | ((with_reducible refine br_neg ?ha ?_); (case ha => exact gB)) | ((with_reducible refine br_t ?ha ?_); (case ha => with_reducible assumption)) | ((with_reducible refine br_f ?ha ?_); (case ha => with_reducible assumption)) | ((with_reducible refine br_dec (fun h => ?_) (fun h => ?_))) | ((with_reducible refine br_not ?_)) | ((with_reducible refine br_b (fun h => ?_) (fun h => ?_))) | ((with_reducible refine wr_i64 rfl ?ha ?hb ?_); (case ha => exact gB); (case hb => exact gB)) | ((with_reducible refine wr_u64 rfl ?ha ?hb ?_); (case ha => exact gB); (case hb => exact gB)) | ((with_reducible refine wr_u32 rfl ?ha ?hb ?_); (case ha => exact gB); (case hb => exact gB)) | ((with_reducible refine And.intro ?_ ?_)) | ((with_reducible refine True.intro)) | ((with_reducible refine Stp.go ?_)) | skip))
    refine ⟨k + 1, by omega, by omega, ?_⟩
    have e : (t.pools.take (k + 1)).map Pf.rg = (t.pools.take k).map Pf.rg ++ [r.rg] := by rw [List.take_add_one, hr]; simp
    rw [e, List.map_append, List.length_append]
    exact ⟨[(0, 0), (1, 6), (2, 2)], rfl, ⟨rfl, rfl, rfl, rfl, rfl, rfl, trivial⟩, rfl, rfl, rfl, trivial⟩
  iterate 12 (all_goals ((conv => whnf); first | ((with_reducible refine sl_full ?ha ?_); (case ha => exact gA)) | ((with_reducible refine Ob.intro ?ha ?_); (case ha => exact gC)) | ((with_reducible refine br_lt ?_)) | ((with_reducible refine br_lf ?_)) | ((with_reducible refine br_pos ?ha ?_); (case ha => exact gB)) | ((with_reducible refine br_neg ?ha ?_); (case ha => exact gB)) | ((with_reducible refine br_t ?ha ?_); (case ha => with_reducible assumption)) | ((with_reducible refine br_f ?ha ?_); (case ha => with_reducible assumption)) | ((with_reducible refine br_dec (fun h => ?_) (fun h => ?_))) | ((with_reducible refine br_not ?_)) | ((with_reducible refine br_b (fun h => ?_) (fun h => ?_))) | ((with_reducible refine wr_i64 rfl ?ha ?hb ?_); (case ha => exact gB); (case hb => exact gB)) | ((with_reducible refine wr_u64 rfl ?ha ?hb ?_); (case ha => exact gB); (case hb => exact gB)) | ((with_reducible refine wr_u32 rfl ?ha ?hb ?_); (case ha => exact gB); (case hb => exact gB)) | ((with_reducible refine And.intro ?_ ?_)) | ((with_reducible refine True.intro)) | ((with_reducible refine Stp.go ?_)) | skip))
  refine Lp.intro Nat (fun k => ⟨2, [(1, .arr 2 (((fixed (t.edges.take k)).map Pf.rg).map encR)), (0, .arr 2 (((t.pools.take t.pools.length).map Pf.rg).map encR))], [(3, .os 0 2 0 ((t.pools.take t.pools.length).map Pf.rg).length), (4, .os 1 2 0 ((fixed (t.edges.take k)).map Pf.rg).length), (31, .lst (t.edges.map encE)), (32, .v (.int .i64 (t.edges.map encE).length)), (33, .v (.int .i64 k))]⟩) (fun k => k ≤ t.edges.length) (fun k => t.edges.length - k) 0 ?_ ?_ ?_
  · exact Nat.zero_le _
  · rw [show k = t.pools.length by omega]
    exact ⟨[(0, 1), (1, 2)], rfl, ⟨rfl, rfl, rfl, rfl, rfl, trivial⟩, rfl, rfl, trivial⟩
  intro k hk
  rcases Nat.lt_or_ge k t.edges.length with hkl | hkl
  · obtain ⟨r, hr⟩ : ∃ r, t.edges[k]? = some r := ⟨_, List.getElem?_eq_getElem hkl⟩
    have hs := fixed_succ hr
    have hlen2 : (fixed (t.edges.take k)).length ≤ 12 := by
      have := fixed_len (t.edges.take k)
      simp only [List.length_take] at this
      omega
    have hlen : ((fixed (t.edges.take k)).map Pf.rg).length ≤ 12 := by rw [List.length_map]; exact hlen2
    iterate 40 (all_goals ((conv => whnf); first | (with_reducible refine in_map hkl ?_) | (with_reducible refine ix_map hr ?_) | (with_reducible refine cpOf r.pf ?_) | ((with_reducible refine sl_full ?ha ?_); (case ha => exact gA)) | ((with_reducible refine Ob.intro ?ha ?_); (case ha => exact gC)) | ((with_reducible refine br_lt ?_)) | ((with_reducible refine br_lf ?_)) | ((with_reducible refine br_pos ?ha ?_); (case ha => exact gB)) | ((with_reducible refine br_neg ?ha ?_); (case ha => exact gB)) | ((with_reducible refine br_t ?ha ?_); (case ha => with_reducible assumption)) | ((with_reducible refine br_f ?ha ?_); (case ha => with_reducible assumption)) | ((with_reducible refine br_dec (fun h => ?_) (fun h => ?_))) | ((with_reducible refine br_not ?_)) | ((with_reducible refine br_b (fun h => ?_) (fun h => ?_))) | ((with_reducible refine wr_i64 rfl ?ha ?hb ?_); (case ha => exact gB); (case hb => exact gB)) | ((with_reducible refine wr_u64 rfl ?ha ?hb ?_); (case ha => exact gB); (case hb => exact gB)) | ((with_reducible refine wr_u32 rfl ?ha ?hb ?_); (case ha => exact gB); (case hb => exact gB)) | ((with_reducible refine And.intro ?_ ?_)) | ((with_reducible refine True.intro)) | ((with_reducible refine Stp.go ?_)) | skip))
    · refine ⟨k + 1, by omega, by omega, ?_⟩
      rw [hs, h, if_pos rfl, List.append_nil]
      exact ⟨[(0, 0), (1, 1)], rfl, ⟨rfl, rfl, rfl, rfl, rfl, trivial⟩, rfl, rfl, trivial⟩
    · refine ⟨k + 1, by omega, by omega, ?_⟩
      rw [hs, h, if_neg (by simp), List.map_append, List.map_append, List.length_append]
      exact ⟨[(0, 0), (1, 5)], rfl, ⟨rfl, rfl, rfl, rfl, rfl, trivial⟩, rfl, rfl, trivial⟩
  have lf := fixed_len t.edges
  have hfe : ∀ p, p ∈ fixed t.edges → p.okP := fun p hp => by
    obtain ⟨e, h1, rfl⟩ := List.mem_map.1 hp
    exact he e (List.mem_filter.1 h1).1
  have ek : fixed (t.edges.take k) = fixed t.edges := by rw [List.take_of_length_le hkl]
  have el : t.pools.take t.pools.length = t.pools := List.take_length
  rw [ek, el]
  have l1 : (t.pools.map Pf.rg).length ≤ 8 := by rw [List.length_map]; exact lp
  have l2 : ((fixed t.edges).map Pf.rg).length ≤ 12 := by rw [List.length_map]; omega
  iterate 12 (all_goals ((conv => whnf); first | (with_reducible refine c24r _ _ (by omega) (by omega) fun out o1 o2 o3 => ?_) | ((with_reducible refine sl_full ?ha ?_); (case ha => exact gA)) | ((with_reducible refine Ob.intro ?ha ?_); (case ha => exact gC)) | ((with_reducible refine br_lt ?_)) | ((with_reducible refine br_lf ?_)) | ((with_reducible refine br_pos ?ha ?_); (case ha => exact gB)) | ((with_reducible refine br_neg ?ha ?_); (case ha => exact gB)) | ((with_reducible refine br_t ?ha ?_); (case ha => with_reducible assumption)) | ((with_reducible refine br_f ?ha ?_); (case ha => with_reducible assumption)) | ((with_reducible refine br_dec (fun h => ?_) (fun h => ?_))) | ((with_reducible refine br_not ?_)) | ((with_reducible refine br_b (fun h => ?_) (fun h => ?_))) | ((with_reducible refine wr_i64 rfl ?ha ?hb ?_); (case ha => exact gB); (case hb => exact gB)) | ((with_reducible refine wr_u64 rfl ?ha ?hb ?_); (case ha => exact gB); (case hb => exact gB)) | ((with_reducible refine wr_u32 rfl ?ha ?hb ?_); (case ha => exact gB); (case hb => exact gB)) | ((with_reducible refine And.intro ?_ ?_)) | ((with_reducible refine True.intro)) | ((with_reducible refine Stp.go ?_)) | skip))
  exact hK out o1 (fun v => by rw [o2, rg_has hp, rg_has hfe]) (by omega)

/-- the lowest block of that size -/
def lowIn (n : Int) (r : Rg) : Option Int := if (r.lo + n - 1) / n * n + n - 1 ≤ r.hi then some ((r.lo + n - 1) / n * n) else none
def lowest (l : List Rg) (n : Int) : Option Int := l.findSome? (lowIn n)
theorem low_ge {r : Rg} {n : Int} (hn : 0 < n) : r.lo ≤ (r.lo + n - 1) / n * n ∧ (r.lo + n - 1) / n * n ≤ r.lo + n - 1 := by
  have h1 := Int.emod_nonneg (r.lo + n - 1) (Int.ne_of_gt hn)
  have h2 := Int.emod_lt_of_pos (r.lo + n - 1) hn
  have h3 := Int.mul_ediv_add_emod (r.lo + n - 1) n
  rw [Int.mul_comm] at h3
  omega
/-- addressing.lowest -/
theorem caLow (l : List Rg) (b : Int) (b0 : 0 ≤ b) (b1 : b ≤ 32) (hl : l.length < 1000000) {K : AV → List Vm.Obj → Prop}
    (hK1 : lowest l (pz b) = none → K (.tup [.agg [.v (.int .u32 0), .v (.int .u32 0)], .v (.bool false)]) [])
    (hK2 : ∀ a, lowest l (pz b) = some a → 0 ≤ a → a + pz b - 1 ≤ 4294967295 → K (.tup [.agg [.v (.int .u32 a), .v (.int .u32 (a + pz b - 1))], .v (.bool true)]) []) :
    ACall Tryz.prog 34 [encRs l, .v (.int .i64 b)] [] K := by
  have hn := pz_pos b
  have hn2 := pz_le b b0
  refine ofaLow rfl rfl ?_
  iterate 14 (all_goals ((conv => whnf); first | (with_reducible refine wr_is (size_wrap b b0 b1) ?_) | ((with_reducible refine sl_full ?ha ?_); (case ha => exact gA)) | ((with_reducible refine Ob.intro ?ha ?_); (case ha => exact gC)) | ((with_reducible refine br_lt ?_)) | ((with_reducible refine br_lf ?_)) | ((with_reducible refine br_pos ?ha ?_); (case ha => exact gB)) | ((with_reducible refine br_neg ?ha ?_); (case ha => exact gB)) | ((with_reducible refine br_t ?ha ?_); (case ha => with_reducible assumption)) | ((with_reducible refine br_f ?ha ?_); (case ha => with_reducible assumption)) | ((with_reducible refine br_dec (fun h => ?_) (fun h => ?_))) | ((with_reducible refine br_not ?_)) | ((with_reducible refine br_b (fun h => ?_) (fun h => ?_))) | ((with_reducible refine wr_i64 rfl ?ha ?hb ?_); (case ha => exact gB); (case hb => exact gB)) | ((with_reducible refine wr_u64 rfl ?ha ?hb ?_); (case ha => exact gB); (case hb => exact gB)) | ((with_reducible refine wr_u32 rfl ?ha ?hb ?_); (case ha => exact gB); (case hb => exact gB)) | ((with_reducible refine And.intro ?_ ?_)) | ((with_reducible refine True.intro)) | ((with_reducible refine Stp.go ?_)) | skip))
  refine Lp.intro Nat (fun k => ⟨1, [(0, .box [.v (.int .u32 0), .v (.int .u32 0)])], [(4, .op 0 0), (6, .v (.int .u64 (pz b))), (14, encRs l), (15, .v (.int .i64 (l.map encR).length)), (16, .v (.int .i64 k))]⟩)
    (fun k => k ≤ l.length ∧ ∀ (i : Nat) r, i < k → l[i]? = some r → lowIn (pz b) r = none) (fun k => l.length - k) 0 ?_ ?_ ?_
  · exact ⟨Nat.zero_le _, fun i y hi => absurd hi (Nat.not_lt_zero _)⟩
  · exact ⟨[(0, 0)], rfl, ⟨rfl, rfl, rfl, rfl, rfl, trivial⟩, rfl, trivial⟩
  intro k ⟨hk, hinv⟩
  rcases Nat.lt_or_ge k l.length with hkl | hkl
  · obtain ⟨r, hr⟩ : ∃ r, l[k]? = some r := ⟨_, List.getElem?_eq_getElem hkl⟩
    have c1 := r.l0; have c2 := r.l1; have c3 := r.h0; have c4 := r.h1
    have g := low_ge (r := r) hn
    have q0 : 0 ≤ (r.lo + pz b - 1) / pz b := Int.ediv_nonneg (by omega) (by omega)
    have q1 : (r.lo + pz b - 1) / pz b ≤ 18446744073709551615 := Int.le_trans (Int.ediv_le_self _ (by omega)) (by omega)
    iterate 60 (all_goals ((conv => whnf); first | (with_reducible refine in_map hkl ?_) | (with_reducible refine ix_map hr ?_) | (with_reducible refine Ob.intro (pz_ne _) ?_) | (with_reducible refine wr_u64 (Int.tdiv_eq_ediv_of_nonneg (by omega)) q0 q1 ?_) | ((with_reducible refine sl_full ?ha ?_); (case ha => exact gA)) | ((with_reducible refine Ob.intro ?ha ?_); (case ha => exact gC)) | ((with_reducible refine br_lt ?_)) | ((with_reducible refine br_lf ?_)) | ((with_reducible refine br_pos ?ha ?_); (case ha => exact gB)) | ((with_reducible refine br_neg ?ha ?_); (case ha => exact gB)) | ((with_reducible refine br_t ?ha ?_); (case ha => with_reducible assumption)) | ((with_reducible refine br_f ?ha ?_); (case ha => with_reducible assumption)) | ((with_reducible refine br_dec (fun h => ?_) (fun h => ?_))) | ((with_reducible refine br_not ?_)) | ((with_reducible refine br_b (fun h => ?_) (fun h => ?_))) | ((with_reducible refine wr_i64 rfl ?ha ?hb ?_); (case ha => exact gB); (case hb => exact gB)) | ((with_reducible refine wr_u64 rfl ?ha ?hb ?_); (case ha => exact gB); (case hb => exact gB)) | ((with_reducible refine wr_u32 rfl ?ha ?hb ?_); (case ha => exact gB); (case hb => exact gB)) | ((with_reducible refine And.intro ?_ ?_)) | ((with_reducible refine True.intro)) | ((with_reducible refine Stp.go ?_)) | skip))
    · refine hK2 _ ?_ (by omega) (by omega)
      have e1 : l.take k ++ r :: l.drop (k + 1) = l := by
        rw [List.getElem?_eq_getElem hkl] at hr
        rw [← Option.some.inj hr, ← List.drop_eq_getElem_cons hkl, List.take_append_drop]
      have e2 : (l.take k).findSome? (lowIn (pz b)) = none := List.findSome?_eq_none_iff.2 fun x hx => by
        obtain ⟨i, hi⟩ := List.mem_iff_getElem?.1 hx
        obtain ⟨h1, h2⟩ := take_get.1 hi
        exact hinv i x h1 h2
      rw [lowest, ← e1, List.findSome?_append, e2, Option.none_or, List.findSome?_cons, lowIn, if_pos h]
    · exact ⟨k + 1, ⟨by omega, all_succ hr (by rw [lowIn, if_neg h]) hinv⟩, by omega, ⟨[(0, 0)], rfl, ⟨rfl, rfl, rfl, rfl, rfl, trivial⟩, rfl, trivial⟩⟩
  iterate 12 (all_goals ((conv => whnf); first | ((with_reducible refine sl_full ?ha ?_); (case ha => exact gA)) | ((with_reducible refine Ob.intro ?ha ?_); (case ha => exact gC)) | ((with_reducible refine br_lt ?_)) | ((with_reducible refine br_lf ?_)) | ((with_reducible refine br_pos ?ha ?_); (case ha => exact gB)) | ((with_reducible refine br_neg ?ha ?_); (case ha => exact gB)) | ((with_reducible refine br_t ?ha ?_); (case ha => with_reducible assumption)) | ((with_reducible refine br_f ?ha ?_); (case ha => with_reducible assumption)) | ((with_reducible refine br_dec (fun h => ?_) (fun h => ?_))) | ((with_reducible refine br_not ?_)) | ((with_reducible refine br_b (fun h => ?_) (fun h => ?_))) | ((with_reducible refine wr_i64 rfl ?ha ?hb ?_); (case ha => exact gB); (case hb => exact gB)) | ((with_reducible refine wr_u64 rfl ?ha ?hb ?_); (case ha => exact gB); (case hb => exact gB)) | ((with_reducible refine wr_u32 rfl ?ha ?hb ?_); (case ha => exact gB); (case hb => exact gB)) | ((with_reducible refine And.intro ?_ ?_)) | ((with_reducible refine True.intro)) | ((with_reducible refine Stp.go ?_)) | skip))
  refine hK1 (List.findSome?_eq_none_iff.2 fun x hx => ?_)
  obtain ⟨i, hi⟩ := List.mem_iff_getElem?.1 hx
  exact before_all hkl hinv i x hi
end Go.Proofs.YtgcplfplbcpemaaGreat

set_option linter.unusedVariables false
set_option maxRecDepth 20000
namespace Go.Proofs.YtgcplfplbcpemaaGreat
open Go Go.Vm

/-- cmp.isNaN[int] -/
noncomputable def gisNaNI : Ctx := { N := 6, np := 0, own := fun _ => false, plan := fun _ => none, hints := fun _ => [], cut := fun _ => false }
noncomputable def bisNaNI : Code := match Tryz.f52.body with | some c => c | none => .skip
theorem ofisNaNI {args : List AV} {hs : List Vm.Obj} {K : AV → List Vm.Obj → Prop} (hp : Nat.beq gisNaNI.np hs.length = true) (ha : Nat.ble args.length 6 = true) (hq : initQ hs args fun σ => codeQ Tryz.prog gisNaNI bisNaNI σ (retQ Tryz.prog gisNaNI Tryz.f52.results.toList K)) : ACall Tryz.prog 52 args hs K :=
  ACall.of_code (Γ := gisNaNI) Tryz.func52 (by kernel_rfl) (by kernel_rfl) (by kernel_rfl) (by kernel_rfl) (Nat.eq_of_beq_eq_true hp) ha hq
/-- cmp.Compare[int] -/
noncomputable def gcmpInt : Ctx := { N := 20, np := 0, own := fun _ => false, plan := fun _ => none, hints := fun _ => [], cut := fun _ => false }
noncomputable def bcmpInt : Code := match Tryz.f32.body with | some c => c | none => .skip
theorem ofcmpInt {args : List AV} {hs : List Vm.Obj} {K : AV → List Vm.Obj → Prop} (hp : Nat.beq gcmpInt.np hs.length = true) (ha : Nat.ble args.length 20 = true) (hq : initQ hs args fun σ => codeQ Tryz.prog gcmpInt bcmpInt σ (retQ Tryz.prog gcmpInt Tryz.f32.results.toList K)) : ACall Tryz.prog 32 args hs K :=
  ACall.of_code (Γ := gcmpInt) Tryz.func32 (by kernel_rfl) (by kernel_rfl) (by kernel_rfl) (by kernel_rfl) (Nat.eq_of_beq_eq_true hp) ha hq
/-- netsegment/addressing.Plan$1 -/
noncomputable def gplan1 : Ctx := { N := 21, np := 2, own := fun _ => false, plan := fun i => match Nat.beq i 1 with | true => some (lin [(0, true), (1, true), (2, true), (3, true), (4, true), (5, true), (6, true), (7, true), (8, true), (9, true), (10, true), (11, true), (12, true), (13, true), (14, false), (15, true)]) | false => none, hints := fun _ => [], cut := fun _ => false }
noncomputable def bplan1 : Code := match Tryz.f31.body with | some c => c | none => .skip
theorem ofplan1 {args : List AV} {hs : List Vm.Obj} {K : AV → List Vm.Obj → Prop} (hp : Nat.beq gplan1.np hs.length = true) (ha : Nat.ble args.length 21 = true) (hq : initQ hs args fun σ => codeQ Tryz.prog gplan1 bplan1 σ (retQ Tryz.prog gplan1 Tryz.f31.results.toList K)) : ACall Tryz.prog 31 args hs K :=
  ACall.of_code (Γ := gplan1) Tryz.func31 (by kernel_rfl) (by kernel_rfl) (by kernel_rfl) (by kernel_rfl) (Nat.eq_of_beq_eq_true hp) ha hq
/-- slices.insertionSortCmpFunc[int] -/
noncomputable def ginsInt : Ctx := { N := 53, np := 3, own := fun i => match Nat.beq i 31 with | true => true | false => false, plan := fun i => match Nat.beq i 4 with | true => some (lin [(0, true), (1, true), (2, true), (3, true), (4, true), (5, true), (6, true), (7, true), (8, true), (9, true), (10, true), (11, true), (12, true), (13, true), (14, false), (15, true), (16, true)]) | false => match Nat.beq i 6 with | true => some (lin [(0, true), (1, true), (2, true), (3, true), (4, true), (5, true), (6, true), (7, true), (8, true), (9, true), (10, true), (11, true), (12, true), (13, true), (14, true), (15, false), (16, true), (17, false)]) | false => none, hints := fun _ => [], cut := fun _ => false }
noncomputable def binsInt : Code := match Tryz.f77.body with | some c => c | none => .skip
theorem ofinsInt {args : List AV} {hs : List Vm.Obj} {K : AV → List Vm.Obj → Prop} (hp : Nat.beq ginsInt.np hs.length = true) (ha : Nat.ble args.length 53 = true) (hq : initQ hs args fun σ => codeQ Tryz.prog ginsInt binsInt σ (retQ Tryz.prog ginsInt Tryz.f77.results.toList K)) : ACall Tryz.prog 77 args hs K :=
  ACall.of_code (Γ := ginsInt) Tryz.func77 (by kernel_rfl) (by kernel_rfl) (by kernel_rfl) (by kernel_rfl) (Nat.eq_of_beq_eq_true hp) ha hq
/-- slices.stableCmpFunc[int] -/
noncomputable def gstabInt : Ctx := { N := 63, np := 3, own := fun i => match Nat.beq i 77 with | true => true | false => false, plan := fun _ => none, hints := fun _ => [], cut := fun _ => false }
noncomputable def bstabInt : Code := match Tryz.f51.body with | some c => c | none => .skip
theorem ofstabInt {args : List AV} {hs : List Vm.Obj} {K : AV → List Vm.Obj → Prop} (hp : Nat.beq gstabInt.np hs.length = true) (ha : Nat.ble args.length 63 = true) (hq : initQ hs args fun σ => codeQ Tryz.prog gstabInt bstabInt σ (retQ Tryz.prog gstabInt Tryz.f51.results.toList K)) : ACall Tryz.prog 51 args hs K :=
  ACall.of_code (Γ := gstabInt) Tryz.func51 (by kernel_rfl) (by kernel_rfl) (by kernel_rfl) (by kernel_rfl) (Nat.eq_of_beq_eq_true hp) ha hq
/-- slices.SortStableFunc[[]int,int] -/
noncomputable def gsortStab : Ctx := { N := 9, np := 3, own := fun i => match Nat.beq i 51 with | true => true | false => false, plan := fun _ => none, hints := fun _ => [], cut := fun _ => false }
noncomputable def bsortStab : Code := match Tryz.f30.body with | some c => c | none => .skip
theorem ofsortStab {args : List AV} {hs : List Vm.Obj} {K : AV → List Vm.Obj → Prop} (hp : Nat.beq gsortStab.np hs.length = true) (ha : Nat.ble args.length 9 = true) (hq : initQ hs args fun σ => codeQ Tryz.prog gsortStab bsortStab σ (retQ Tryz.prog gsortStab Tryz.f30.results.toList K)) : ACall Tryz.prog 30 args hs K :=
  ACall.of_code (Γ := gsortStab) Tryz.func30 (by kernel_rfl) (by kernel_rfl) (by kernel_rfl) (by kernel_rfl) (Nat.eq_of_beq_eq_true hp) ha hq

end Go.Proofs.YtgcplfplbcpemaaGreat

set_option linter.unusedVariables false
set_option linter.unusedSimpArgs false
set_option maxRecDepth 20000
namespace Go.Proofs.YtgcplfplbcpemaaGreat
open Go Go.Vm

/-- cmp.isNaN -/
theorem cisNaNI (x : Int) {K : AV → List Vm.Obj → Prop} (hK : K (.sb false) []) : ACall Tryz.prog 52 [.v (.int .i64 x)] [] K := by
  refine ofisNaNI rfl rfl ?_
  iterate 4 (all_goals ((conv => whnf); first | ((with_reducible refine sl_full ?ha ?_); (case ha => exact gA)) | ((with_reducible refine Ob.intro ?ha ?_); (case ha => exact gC)) | ((with_reducible refine br_lt ?_)) | ((with_reducible refine br_lf ?_)) | ((with_reducible refine br_pos ?ha ?_); (case ha => exact gB)) | ((with_reducible refine br_neg ?ha ?_); (case ha => exact gB)) | ((with_reducible refine br_t ?ha ?_); (case ha => with_reducible assumption)) | ((with_reducible refine br_f ?ha ?_); (case ha => with_reducible assumption)) | ((with_reducible refine br_dec (fun h => ?_) (fun h => ?_))) | ((with_reducible refine br_not ?_)) | ((with_reducible refine br_b (fun h => ?_) (fun h => ?_))) | ((with_reducible refine wr_i64 rfl ?ha ?hb ?_); (case ha => exact gB); (case hb => exact gB)) | ((with_reducible refine wr_u64 rfl ?ha ?hb ?_); (case ha => exact gB); (case hb => exact gB)) | ((with_reducible refine wr_u32 rfl ?ha ?hb ?_); (case ha => exact gB); (case hb => exact gB)) | ((with_reducible refine And.intro ?_ ?_)) | ((with_reducible refine True.intro)) | ((with_reducible refine Stp.go ?_)) | skip))
  have e : (!decide (x = x)) = false := by simp
  unfold one?
  rw [e]
  exact hK
/-- cmp.Compare -/
theorem ccmpInt (x y : Int) {K : AV → List Vm.Obj → Prop} (hK : K (.v (.int .i64 (cmpI x y))) []) : ACall Tryz.prog 32 [.v (.int .i64 x), .v (.int .i64 y)] [] K := by
  refine ofcmpInt rfl rfl ?_
  iterate 30 (all_goals ((conv => whnf); first | (with_reducible refine cisNaNI _ ?_) | ((with_reducible refine sl_full ?ha ?_); (case ha => exact gA)) | ((with_reducible refine Ob.intro ?ha ?_); (case ha => exact gC)) | ((with_reducible refine br_lt ?_)) | ((with_reducible refine br_lf ?_)) | ((with_reducible refine br_pos ?ha ?_); (case ha => exact gB)) | ((with_reducible refine br_neg ?ha ?_); (case ha => exact gB)) | ((with_reducible refine br_t ?ha ?_); (case ha => with_reducible assumption)) | ((with_reducible refine br_f ?ha ?_); (case ha => with_reducible assumption)) | ((with_reducible refine br_dec (fun h => ?_) (fun h => ?_))) | ((with_reducible refine br_not ?_)) | ((with_reducible refine br_b (fun h => ?_) (fun h => ?_))) | ((with_reducible refine wr_i64 rfl ?ha ?hb ?_); (case ha => exact gB); (case hb => exact gB)) | ((with_reducible refine wr_u64 rfl ?ha ?hb ?_); (case ha => exact gB); (case hb => exact gB)) | ((with_reducible refine wr_u32 rfl ?ha ?hb ?_); (case ha => exact gB); (case hb => exact gB)) | ((with_reducible refine And.intro ?_ ?_)) | ((with_reducible refine True.intro)) | ((with_reducible refine Stp.go ?_)) | skip))
  all_goals
    unfold cmpI at hK
  · rw [if_pos (by assumption)] at hK; exact hK
  · rw [if_neg (by assumption), if_pos (by assumption)] at hK; exact hK
  · rw [if_neg (by assumption), if_neg (by assumption)] at hK; exact hK
noncomputable abbrev boxO (t : Tp) (id n : Nat) : Vm.Obj := .box [.lst (t.devs.map encD), .lst (t.links.map encL), .os id 6 0 n, .lst (t.pools.map encP), .v (.int .i64 t.tol)]
/-- addressing.Plan$1 -/
theorem cplan1 (t : Tp) (i j : Nat) (e f : Ed) (hi : t.edges[i]? = some e) (hj : t.edges[j]? = some f) {K : AV → List Vm.Obj → Prop} (hK : K (.v (.int .i64 (cmpI e.pf.bits f.pf.bits))) [boxO t 1 t.edges.length, .arr 6 (t.edges.map encE)]) :
    ACall Tryz.prog 31 [.v (.int .i64 i), .v (.int .i64 j), .op 0 0] [boxO t 1 t.edges.length, .arr 6 (t.edges.map encE)] K := by
  refine ofplan1 rfl rfl ?_
  have l1 : i < t.edges.length := (List.getElem?_eq_some_iff.1 hi).1
  have l2 : j < t.edges.length := (List.getElem?_eq_some_iff.1 hj).1
  have hi0 : t.edges[0 + i]? = some e := by rw [Nat.zero_add]; exact hi
  have hj0 : t.edges[0 + j]? = some f := by rw [Nat.zero_add]; exact hj
  iterate 40 (all_goals ((conv => whnf); first | (with_reducible refine in_nat l1 ?_) | (with_reducible refine in_nat l2 ?_) | (with_reducible refine ix_map hi0 ?_) | (with_reducible refine ix_map hj0 ?_) | (with_reducible refine ccmpInt _ _ ?_) | ((with_reducible refine sl_full ?ha ?_); (case ha => exact gA)) | ((with_reducible refine Ob.intro ?ha ?_); (case ha => exact gC)) | ((with_reducible refine br_lt ?_)) | ((with_reducible refine br_lf ?_)) | ((with_reducible refine br_pos ?ha ?_); (case ha => exact gB)) | ((with_reducible refine br_neg ?ha ?_); (case ha => exact gB)) | ((with_reducible refine br_t ?ha ?_); (case ha => with_reducible assumption)) | ((with_reducible refine br_f ?ha ?_); (case ha => with_reducible assumption)) | ((with_reducible refine br_dec (fun h => ?_) (fun h => ?_))) | ((with_reducible refine br_not ?_)) | ((with_reducible refine br_b (fun h => ?_) (fun h => ?_))) | ((with_reducible refine wr_i64 rfl ?ha ?hb ?_); (case ha => exact gB); (case hb => exact gB)) | ((with_reducible refine wr_u64 rfl ?ha ?hb ?_); (case ha => exact gB); (case hb => exact gB)) | ((with_reducible refine wr_u32 rfl ?ha ?hb ?_); (case ha => exact gB); (case hb => exact gB)) | ((with_reducible refine And.intro ?_ ?_)) | ((with_reducible refine True.intro)) | ((with_reducible refine Stp.go ?_)) | skip))
  exact hK

/-- into a sorted list, the last first -/
def insRev {α : Type} (lt : α → α → Bool) : List α → α → List α
  | [], x => [x]
  | y :: ys, x => if lt x y then y :: insRev lt ys x else x :: y :: ys
def sortRev {α : Type} (lt : α → α → Bool) (l : List α) : List α := l.foldl (insRev lt) []
/-- the stable sort by insertion -/
def isort {α : Type} (lt : α → α → Bool) (l : List α) : List α := (sortRev lt l).reverse
theorem insRev_at {α : Type} {lt : α → α → Bool} {x : α} : ∀ {B A : List α}, (∀ y, y ∈ B → lt x y = true) → (∀ a A', A = a :: A' → lt x a = false) → insRev lt (B ++ A) x = B ++ x :: A
  | [], [], _, _ => rfl
  | [], a :: A, _, h => by simp [insRev, h a A rfl]
  | b :: B, A, h1, h2 => by
    simp only [List.cons_append, insRev, h1 b (by simp), if_true]
    rw [insRev_at (fun y hy => h1 y (by simp [hy])) h2]
theorem insRev_length {α : Type} (lt : α → α → Bool) : ∀ (l : List α) (x : α), (insRev lt l x).length = l.length + 1
  | [], x => rfl
  | y :: ys, x => by
    simp only [insRev]
    split
    · simp [insRev_length lt ys x]
    · simp
theorem insRev_mem {α : Type} {lt : α → α → Bool} {z : α} : ∀ {l : List α} {x : α}, z ∈ insRev lt l x ↔ z = x ∨ z ∈ l
  | [], x => by simp [insRev]
  | y :: ys, x => by
    simp only [insRev]
    split
    · simp only [List.mem_cons, insRev_mem (l := ys)]
      constructor
      · rintro (h | h | h) <;> simp [h]
      · rintro (h | h | h) <;> simp [h]
    · simp
theorem sortRev_succ {α : Type} {lt : α → α → Bool} {l : List α} {k : Nat} {x : α} (h : l[k]? = some x) : sortRev lt (l.take (k + 1)) = insRev lt (sortRev lt (l.take k)) x := by
  simp [sortRev, List.take_add_one, h]
theorem foldl_ins_length {α : Type} (lt : α → α → Bool) : ∀ (l acc : List α), (l.foldl (insRev lt) acc).length = acc.length + l.length
  | [], acc => rfl
  | x :: l, acc => by rw [List.foldl_cons, foldl_ins_length lt l, insRev_length, List.length_cons]; omega
theorem sortRev_length {α : Type} (lt : α → α → Bool) (l : List α) : (sortRev lt l).length = l.length := by
  rw [sortRev, foldl_ins_length]; simp
theorem foldl_ins_mem {α : Type} {lt : α → α → Bool} {z : α} : ∀ {l acc : List α}, z ∈ l.foldl (insRev lt) acc ↔ z ∈ l ∨ z ∈ acc
  | [], acc => by simp
  | x :: l, acc => by
    rw [List.foldl_cons, foldl_ins_mem (l := l), insRev_mem, List.mem_cons]
    constructor
    · rintro (h | h | h) <;> simp [h]
    · rintro ((h | h) | h) <;> simp [h]
theorem isort_mem {α : Type} {lt : α → α → Bool} {z : α} {l : List α} : z ∈ isort lt l ↔ z ∈ l := by
  rw [isort, List.mem_reverse, sortRev, foldl_ins_mem]; simp

noncomputable abbrev encN (i : Nat) : AV := .v (.int .i64 (i : Int))
def bitsAt (t : Tp) (i : Nat) : Int := ((t.edges[i]?).map fun e => e.pf.bits).getD 0
def ltB (t : Tp) (i j : Nat) : Bool := decide (bitsAt t i < bitsAt t j)
theorem ltB_cmp {t : Tp} {i j : Nat} {e f : Ed} (hi : t.edges[i]? = some e) (hj : t.edges[j]? = some f) : ltB t i j = decide (cmpI e.pf.bits f.pf.bits < 0) := by
  simp only [ltB, bitsAt, hi, hj, Option.map_some, Option.getD_some, cmpI]
  by_cases h1 : e.pf.bits < f.pf.bits
  · simp [h1]
  · by_cases h2 : f.pf.bits < e.pf.bits <;> simp [h1, h2]
/-- slices.insertionSortCmpFunc, by the edges' bits -/
theorem cinsInt (t : Tp) (l : List Nat) (hl : l.length ≤ 12) (hm : ∀ i, i ∈ l → i < t.edges.length) {K : AV → List Vm.Obj → Prop}
    (hK : K (.tup []) [.arr 1 ((isort (ltB t) l).map encN), boxO t 2 t.edges.length, .arr 6 (t.edges.map encE)]) :
    ACall Tryz.prog 77 [.os 0 1 0 l.length, .v (.int .i64 0), .v (.int .i64 l.length), .fn (.func 31) [] [.op 1 0]] [.arr 1 (l.map encN), boxO t 2 t.edges.length, .arr 6 (t.edges.map encE)] K := by
  refine ofinsInt rfl rfl ?_
  iterate 6 (all_goals ((conv => whnf); first | ((with_reducible refine sl_full ?ha ?_); (case ha => exact gA)) | ((with_reducible refine Ob.intro ?ha ?_); (case ha => exact gC)) | ((with_reducible refine br_lt ?_)) | ((with_reducible refine br_lf ?_)) | ((with_reducible refine br_pos ?ha ?_); (case ha => exact gB)) | ((with_reducible refine br_neg ?ha ?_); (case ha => exact gB)) | ((with_reducible refine br_t ?ha ?_); (case ha => with_reducible assumption)) | ((with_reducible refine br_f ?ha ?_); (case ha => with_reducible assumption)) | ((with_reducible refine br_dec (fun h => ?_) (fun h => ?_))) | ((with_reducible refine br_not ?_)) | ((with_reducible refine br_b (fun h => ?_) (fun h => ?_))) | ((with_reducible refine wr_i64 rfl ?ha ?hb ?_); (case ha => exact gB); (case hb => exact gB)) | ((with_reducible refine wr_u64 rfl ?ha ?hb ?_); (case ha => exact gB); (case hb => exact gB)) | ((with_reducible refine wr_u32 rfl ?ha ?hb ?_); (case ha => exact gB); (case hb => exact gB)) | ((with_reducible refine And.intro ?_ ?_)) | ((with_reducible refine True.intro)) | ((with_reducible refine Stp.go ?_)) | skip))
  refine Lp.intro Nat (fun i => ⟨3, [(0, .arr 1 ((isort (ltB t) (l.take i) ++ l.drop i).map encN)), (1, boxO t 2 t.edges.length), (2, .arr 6 (t.edges.map encE))], [(0, .os 0 1 0 l.length), (1, .v (.int .i64 0)), (2, .v (.int .i64 l.length)), (3, .fn (.func 31) [] [.op 1 0]), (8, .v (.int .i64 i))]⟩)
    (fun i => 1 ≤ i ∧ (i ≤ l.length ∨ l.length = 0)) (fun i => l.length - i) 1 ?_ ?_ ?_
  · omega
  · have e : isort (ltB t) (l.take 1) ++ l.drop 1 = l := by cases l <;> simp [isort, sortRev, insRev]
    rw [e]
    exact ⟨[(0, 0), (1, 1), (2, 2)], rfl, ⟨rfl, rfl, rfl, rfl, rfl, trivial⟩, rfl, rfl, rfl, trivial⟩
  intro i ⟨hi1, hi2⟩
  rcases Nat.lt_or_ge i l.length with hil | hil
  · obtain ⟨x, hx⟩ : ∃ x, l[i]? = some x := ⟨_, List.getElem?_eq_getElem hil⟩
    have hlx : x < t.edges.length := hm x (List.mem_of_getElem? hx)
    obtain ⟨ex, hex⟩ : ∃ e, t.edges[x]? = some e := ⟨_, List.getElem?_eq_getElem hlx⟩
    have hd : l.drop i = x :: l.drop (i + 1) := by
      rw [List.getElem?_eq_getElem hil] at hx
      rw [← Option.some.inj hx, ← List.drop_eq_getElem_cons hil]
    have hsl : (sortRev (ltB t) (l.take i)).length = i := by rw [sortRev_length]; simp; omega
    iterate 12 (all_goals ((conv => whnf); first | ((with_reducible refine sl_full ?ha ?_); (case ha => exact gA)) | ((with_reducible refine Ob.intro ?ha ?_); (case ha => exact gC)) | ((with_reducible refine br_lt ?_)) | ((with_reducible refine br_lf ?_)) | ((with_reducible refine br_pos ?ha ?_); (case ha => exact gB)) | ((with_reducible refine br_neg ?ha ?_); (case ha => exact gB)) | ((with_reducible refine br_t ?ha ?_); (case ha => with_reducible assumption)) | ((with_reducible refine br_f ?ha ?_); (case ha => with_reducible assumption)) | ((with_reducible refine br_dec (fun h => ?_) (fun h => ?_))) | ((with_reducible refine br_not ?_)) | ((with_reducible refine br_b (fun h => ?_) (fun h => ?_))) | ((with_reducible refine wr_i64 rfl ?ha ?hb ?_); (case ha => exact gB); (case hb => exact gB)) | ((with_reducible refine wr_u64 rfl ?ha ?hb ?_); (case ha => exact gB); (case hb => exact gB)) | ((with_reducible refine wr_u32 rfl ?ha ?hb ?_); (case ha => exact gB); (case hb => exact gB)) | ((with_reducible refine And.intro ?_ ?_)) | ((with_reducible refine True.intro)) | ((with_reducible refine Stp.go ?_)) | skip))
    refine Lp.intro (List Nat × List Nat) (fun g => ⟨3, [(0, .arr 1 ((g.1 ++ x :: (g.2 ++ l.drop (i + 1))).map encN)), (1, boxO t 2 t.edges.length), (2, .arr 6 (t.edges.map encE))], [(0, .os 0 1 0 l.length), (1, .v (.int .i64 0)), (2, .v (.int .i64 l.length)), (3, .fn (.func 31) [] [.op 1 0]), (8, .v (.int .i64 i)), (9, .v (.int .i64 g.1.length))]⟩)
      (fun g => sortRev (ltB t) (l.take i) = g.2.reverse ++ g.1.reverse ∧ ∀ y, y ∈ g.2 → ltB t x y = true) (fun g => g.1.length) ((sortRev (ltB t) (l.take i)).reverse, []) ?_ ?_ ?_
    · exact ⟨by simp, fun y hy => by simp at hy⟩
    · rw [hd, isort]
      have e9 : ((i : Nat) : Int) = ((sortRev (ltB t) (l.take i)).reverse.length : Nat) := by rw [List.length_reverse, hsl]
      simp only [List.nil_append]
      rw [← e9]
      exact ⟨[(0, 0), (1, 1), (2, 2)], rfl, ⟨rfl, rfl, rfl, rfl, rfl, rfl, trivial⟩, rfl, rfl, rfl, trivial⟩
    rintro ⟨A, B⟩ ⟨hAB, hB⟩
    simp only at hAB hB ⊢
    have hlen : A.length + B.length = i := by rw [hAB] at hsl; simp at hsl; omega
    have fin : (∀ a A', A.reverse = a :: A' → ltB t x a = false) → isort (ltB t) (l.take (i + 1)) ++ l.drop (i + 1) = A ++ x :: (B ++ l.drop (i + 1)) := by
      intro h
      rw [isort, sortRev_succ hx, hAB, insRev_at (fun y hy => hB y (by simpa using hy)) h]
      simp
    rcases List.eq_nil_or_concat A with hA | ⟨A', a, hA⟩
    · subst hA
      iterate 30 (all_goals ((conv => whnf); first | ((with_reducible refine sl_full ?ha ?_); (case ha => exact gA)) | ((with_reducible refine Ob.intro ?ha ?_); (case ha => exact gC)) | ((with_reducible refine br_lt ?_)) | ((with_reducible refine br_lf ?_)) | ((with_reducible refine br_pos ?ha ?_); (case ha => exact gB)) | ((with_reducible refine br_neg ?ha ?_); (case ha => exact gB)) | ((with_reducible refine br_t ?ha ?_); (case ha => with_reducible assumption)) | ((with_reducible refine br_f ?ha ?_); (case ha => with_reducible assumption)) | ((with_reducible refine br_dec (fun h => ?_) (fun h => ?_))) | ((with_reducible refine br_not ?_)) | ((with_reducible refine br_b (fun h => ?_) (fun h => ?_))) | ((with_reducible refine wr_i64 rfl ?ha ?hb ?_); (case ha => exact gB); (case hb => exact gB)) | ((with_reducible refine wr_u64 rfl ?ha ?hb ?_); (case ha => exact gB); (case hb => exact gB)) | ((with_reducible refine wr_u32 rfl ?ha ?hb ?_); (case ha => exact gB); (case hb => exact gB)) | ((with_reducible refine And.intro ?_ ?_)) | ((with_reducible refine True.intro)) | ((with_reducible refine Stp.go ?_)) | skip))
      refine ⟨i + 1, ⟨by omega, by omega⟩, by omega, ?_⟩
      rw [fin (fun a A' h => by simp at h)]
      exact ⟨[(0, 0), (1, 1), (2, 2)], rfl, ⟨rfl, rfl, rfl, rfl, rfl, trivial⟩, rfl, rfl, rfl, trivial⟩
    · rw [List.concat_eq_append] at hA
      subst hA
      have hma : a ∈ l := by
        have : a ∈ sortRev (ltB t) (l.take i) := by rw [hAB]; simp
        rw [sortRev, foldl_ins_mem] at this
        exact List.mem_of_mem_take (this.resolve_right (by simp))
      obtain ⟨ea, hea⟩ : ∃ e, t.edges[a]? = some e := ⟨_, List.getElem?_eq_getElem (hm a hma)⟩
      have hc := ltB_cmp hex hea
      have hj : (((A' ++ [a]).length : Nat) : Int) - 1 = (A'.length : Nat) := by simp
      have g1 : (A' ++ [a] ++ x :: (B ++ l.drop (i + 1)))[0 + (A' ++ [a]).length]? = some x := by simp
      have g2 : (A' ++ [a] ++ x :: (B ++ l.drop (i + 1)))[0 + A'.length]? = some a := by simp
      have n1 : (A' ++ [a]).length < l.length := by omega
      have n2 : A'.length < l.length := by simp at n1; omega
      have n3 : 0 < (A' ++ [a]).length := by simp
      have g3 : ((List.map encN (A' ++ [a] ++ x :: (B ++ l.drop (i + 1)))).set (0 + (A' ++ [a]).length) (.v (.int .i64 (a : Int))))[0 + A'.length]? = some (encN a) := by
        rw [List.getElem?_set_ne (by simp), List.getElem?_map, g2]; rfl
      have hset : ((List.map encN (A' ++ [a] ++ x :: (B ++ l.drop (i + 1)))).set (0 + (A' ++ [a]).length) (.v (.int .i64 (a : Int)))).set (0 + A'.length) (.v (.int .i64 (x : Int))) = List.map encN (A' ++ x :: ((a :: B) ++ l.drop (i + 1))) := by
        show ((List.map encN (A' ++ [a] ++ x :: (B ++ l.drop (i + 1)))).set (0 + (A' ++ [a]).length) (encN a)).set (0 + A'.length) (encN x) = _
        rw [← List.map_set, ← List.map_set]
        congr 1
        simp
      iterate 80 (all_goals ((conv => whnf); first | (with_reducible refine in_nat n1 ?_) | (with_reducible refine In.intro A'.length hj n2 ?_) | (with_reducible refine ix_map g1 ?_) | (with_reducible refine ix_map g2 ?_) | (with_reducible refine Ix.intro g3 ?_) | (with_reducible refine cplan1 t _ _ _ _ hex hea ?_) | ((with_reducible refine sl_full ?ha ?_); (case ha => exact gA)) | ((with_reducible refine Ob.intro ?ha ?_); (case ha => exact gC)) | ((with_reducible refine br_lt ?_)) | ((with_reducible refine br_lf ?_)) | ((with_reducible refine br_pos ?ha ?_); (case ha => exact gB)) | ((with_reducible refine br_neg ?ha ?_); (case ha => exact gB)) | ((with_reducible refine br_t ?ha ?_); (case ha => with_reducible assumption)) | ((with_reducible refine br_f ?ha ?_); (case ha => with_reducible assumption)) | ((with_reducible refine br_dec (fun h => ?_) (fun h => ?_))) | ((with_reducible refine br_not ?_)) | ((with_reducible refine br_b (fun h => ?_) (fun h => ?_))) | ((with_reducible refine wr_i64 rfl ?ha ?hb ?_); (case ha => exact gB); (case hb => exact gB)) | ((with_reducible refine wr_u64 rfl ?ha ?hb ?_); (case ha => exact gB); (case hb => exact gB)) | ((with_reducible refine wr_u32 rfl ?ha ?hb ?_); (case ha => exact gB); (case hb => exact gB)) | ((with_reducible refine And.intro ?_ ?_)) | ((with_reducible refine True.intro)) | ((with_reducible refine Stp.go ?_)) | skip))
      all_goals first
        | (refine ⟨i + 1, ⟨by omega, by omega⟩, by omega, ?_⟩
           rw [fin (fun a0 A0 h0 => by simp at h0; obtain ⟨rfl, _⟩ := h0; rw [hc]; exact decide_eq_false h)]
           exact ⟨[(0, 0), (1, 1), (2, 2)], rfl, ⟨rfl, rfl, rfl, rfl, rfl, trivial⟩, rfl, rfl, rfl, trivial⟩)
        | (refine ⟨(A', a :: B), ⟨by rw [hAB]; simp, fun y hy => ?_⟩, by simp, ?_⟩
           · rcases List.mem_cons.1 hy with rfl | hy
             · rw [hc]; exact decide_eq_true h
             · exact hB y hy
           · simp only
             rw [hj, ← hset]
             exact ⟨[(0, 0), (1, 1), (2, 2)], rfl, ⟨rfl, rfl, rfl, rfl, rfl, rfl, trivial⟩, rfl, rfl, rfl, trivial⟩)
  iterate 12 (all_goals ((conv => whnf); first | ((with_reducible refine sl_full ?ha ?_); (case ha => exact gA)) | ((with_reducible refine Ob.intro ?ha ?_); (case ha => exact gC)) | ((with_reducible refine br_lt ?_)) | ((with_reducible refine br_lf ?_)) | ((with_reducible refine br_pos ?ha ?_); (case ha => exact gB)) | ((with_reducible refine br_neg ?ha ?_); (case ha => exact gB)) | ((with_reducible refine br_t ?ha ?_); (case ha => with_reducible assumption)) | ((with_reducible refine br_f ?ha ?_); (case ha => with_reducible assumption)) | ((with_reducible refine br_dec (fun h => ?_) (fun h => ?_))) | ((with_reducible refine br_not ?_)) | ((with_reducible refine br_b (fun h => ?_) (fun h => ?_))) | ((with_reducible refine wr_i64 rfl ?ha ?hb ?_); (case ha => exact gB); (case hb => exact gB)) | ((with_reducible refine wr_u64 rfl ?ha ?hb ?_); (case ha => exact gB); (case hb => exact gB)) | ((with_reducible refine wr_u32 rfl ?ha ?hb ?_); (case ha => exact gB); (case hb => exact gB)) | ((with_reducible refine And.intro ?_ ?_)) | ((with_reducible refine True.intro)) | ((with_reducible refine Stp.go ?_)) | skip))
  rw [List.take_of_length_le (by omega), List.drop_of_length_le (by omega), List.append_nil]
  exact hK
/-- slices.stableCmpFunc, of at most 12 -/
theorem cstabInt (t : Tp) (l : List Nat) (hl : l.length ≤ 12) (hm : ∀ i, i ∈ l → i < t.edges.length) {K : AV → List Vm.Obj → Prop}
    (hK : K (.tup []) [.arr 1 ((isort (ltB t) l).map encN), boxO t 2 t.edges.length, .arr 6 (t.edges.map encE)]) :
    ACall Tryz.prog 51 [.os 0 1 0 l.length, .v (.int .i64 l.length), .fn (.func 31) [] [.op 1 0]] [.arr 1 (l.map encN), boxO t 2 t.edges.length, .arr 6 (t.edges.map encE)] K := by
  refine ofstabInt rfl rfl ?_
  iterate 8 (all_goals ((conv => whnf); first | ((with_reducible refine sl_full ?ha ?_); (case ha => exact gA)) | ((with_reducible refine Ob.intro ?ha ?_); (case ha => exact gC)) | ((with_reducible refine br_lt ?_)) | ((with_reducible refine br_lf ?_)) | ((with_reducible refine br_pos ?ha ?_); (case ha => exact gB)) | ((with_reducible refine br_neg ?ha ?_); (case ha => exact gB)) | ((with_reducible refine br_t ?ha ?_); (case ha => with_reducible assumption)) | ((with_reducible refine br_f ?ha ?_); (case ha => with_reducible assumption)) | ((with_reducible refine br_dec (fun h => ?_) (fun h => ?_))) | ((with_reducible refine br_not ?_)) | ((with_reducible refine br_b (fun h => ?_) (fun h => ?_))) | ((with_reducible refine wr_i64 rfl ?ha ?hb ?_); (case ha => exact gB); (case hb => exact gB)) | ((with_reducible refine wr_u64 rfl ?ha ?hb ?_); (case ha => exact gB); (case hb => exact gB)) | ((with_reducible refine wr_u32 rfl ?ha ?hb ?_); (case ha => exact gB); (case hb => exact gB)) | ((with_reducible refine And.intro ?_ ?_)) | ((with_reducible refine True.intro)) | ((with_reducible refine Stp.go ?_)) | skip))
  refine Lp.intro Unit (fun _ => ⟨3, [(0, .arr 1 (l.map encN)), (1, boxO t 2 t.edges.length), (2, .arr 6 (t.edges.map encE))], [(0, .os 0 1 0 l.length), (1, .v (.int .i64 l.length)), (2, .fn (.func 31) [] [.op 1 0]), (6, .v (.int .i64 20)), (7, .v (.int .i64 0)), (8, .v (.int .i64 20))]⟩) (fun _ => True) (fun _ => 0) () trivial ?_ ?_
  · exact ⟨[(0, 0), (1, 1), (2, 2)], rfl, ⟨rfl, rfl, rfl, rfl, rfl, rfl, trivial⟩, rfl, rfl, rfl, trivial⟩
  intro _ _
  iterate 9 (all_goals ((conv => whnf); first | ((with_reducible refine sl_full ?ha ?_); (case ha => exact gA)) | ((with_reducible refine Ob.intro ?ha ?_); (case ha => exact gC)) | ((with_reducible refine br_lt ?_)) | ((with_reducible refine br_lf ?_)) | ((with_reducible refine br_pos ?ha ?_); (case ha => exact gB)) | ((with_reducible refine br_neg ?ha ?_); (case ha => exact gB)) | ((with_reducible refine br_t ?ha ?_); (case ha => with_reducible assumption)) | ((with_reducible refine br_f ?ha ?_); (case ha => with_reducible assumption)) | ((with_reducible refine br_dec (fun h => ?_) (fun h => ?_))) | ((with_reducible refine br_not ?_)) | ((with_reducible refine br_b (fun h => ?_) (fun h => ?_))) | ((with_reducible refine wr_i64 rfl ?ha ?hb ?_); (case ha => exact gB); (case hb => exact gB)) | ((with_reducible refine wr_u64 rfl ?ha ?hb ?_); (case ha => exact gB); (case hb => exact gB)) | ((with_reducible refine wr_u32 rfl ?ha ?hb ?_); (case ha => exact gB); (case hb => exact gB)) | ((with_reducible refine And.intro ?_ ?_)) | ((with_reducible refine True.intro)) | ((with_reducible refine Stp.go ?_)) | skip))
  refine cinsInt t l hl hm ?_
  iterate 9 (all_goals ((conv => whnf); first | ((with_reducible refine sl_full ?ha ?_); (case ha => exact gA)) | ((with_reducible refine Ob.intro ?ha ?_); (case ha => exact gC)) | ((with_reducible refine br_lt ?_)) | ((with_reducible refine br_lf ?_)) | ((with_reducible refine br_pos ?ha ?_); (case ha => exact gB)) | ((with_reducible refine br_neg ?ha ?_); (case ha => exact gB)) | ((with_reducible refine br_t ?ha ?_); (case ha => with_reducible assumption)) | ((with_reducible refine br_f ?ha ?_); (case ha => with_reducible assumption)) | ((with_reducible refine br_dec (fun h => ?_) (fun h => ?_))) | ((with_reducible refine br_not ?_)) | ((with_reducible refine br_b (fun h => ?_) (fun h => ?_))) | ((with_reducible refine wr_i64 rfl ?ha ?hb ?_); (case ha => exact gB); (case hb => exact gB)) | ((with_reducible refine wr_u64 rfl ?ha ?hb ?_); (case ha => exact gB); (case hb => exact gB)) | ((with_reducible refine wr_u32 rfl ?ha ?hb ?_); (case ha => exact gB); (case hb => exact gB)) | ((with_reducible refine And.intro ?_ ?_)) | ((with_reducible refine True.intro)) | ((with_reducible refine Stp.go ?_)) | skip))
  refine Lp.intro Unit (fun _ => ⟨3, [(0, .arr 1 ((isort (ltB t) l).map encN)), (1, boxO t 2 t.edges.length), (2, .arr 6 (t.edges.map encE))], [(0, .os 0 1 0 l.length), (1, .v (.int .i64 l.length)), (2, .fn (.func 31) [] [.op 1 0]), (6, .v (.int .i64 20))]⟩) (fun _ => True) (fun _ => 0) () trivial ?_ ?_
  · exact ⟨[(0, 0), (1, 1), (2, 2)], rfl, ⟨rfl, rfl, rfl, rfl, trivial⟩, rfl, rfl, rfl, trivial⟩
  intro _ _
  iterate 14 (all_goals ((conv => whnf); first | ((with_reducible refine sl_full ?ha ?_); (case ha => exact gA)) | ((with_reducible refine Ob.intro ?ha ?_); (case ha => exact gC)) | ((with_reducible refine br_lt ?_)) | ((with_reducible refine br_lf ?_)) | ((with_reducible refine br_pos ?ha ?_); (case ha => exact gB)) | ((with_reducible refine br_neg ?ha ?_); (case ha => exact gB)) | ((with_reducible refine br_t ?ha ?_); (case ha => with_reducible assumption)) | ((with_reducible refine br_f ?ha ?_); (case ha => with_reducible assumption)) | ((with_reducible refine br_dec (fun h => ?_) (fun h => ?_))) | ((with_reducible refine br_not ?_)) | ((with_reducible refine br_b (fun h => ?_) (fun h => ?_))) | ((with_reducible refine wr_i64 rfl ?ha ?hb ?_); (case ha => exact gB); (case hb => exact gB)) | ((with_reducible refine wr_u64 rfl ?ha ?hb ?_); (case ha => exact gB); (case hb => exact gB)) | ((with_reducible refine wr_u32 rfl ?ha ?hb ?_); (case ha => exact gB); (case hb => exact gB)) | ((with_reducible refine And.intro ?_ ?_)) | ((with_reducible refine True.intro)) | ((with_reducible refine Stp.go ?_)) | skip))
  exact hK
/-- slices.SortStableFunc, of at most 12 -/
theorem csortStab (t : Tp) (l : List Nat) (hl : l.length ≤ 12) (hm : ∀ i, i ∈ l → i < t.edges.length) {K : AV → List Vm.Obj → Prop}
    (hK : K (.tup []) [.arr 1 ((isort (ltB t) l).map encN), boxO t 2 t.edges.length, .arr 6 (t.edges.map encE)]) :
    ACall Tryz.prog 30 [.os 0 1 0 l.length, .fn (.func 31) [] [.op 1 0]] [.arr 1 (l.map encN), boxO t 2 t.edges.length, .arr 6 (t.edges.map encE)] K := by
  refine ofsortStab rfl rfl ?_
  iterate 9 (all_goals ((conv => whnf); first | ((with_reducible refine sl_full ?ha ?_); (case ha => exact gA)) | ((with_reducible refine Ob.intro ?ha ?_); (case ha => exact gC)) | ((with_reducible refine br_lt ?_)) | ((with_reducible refine br_lf ?_)) | ((with_reducible refine br_pos ?ha ?_); (case ha => exact gB)) | ((with_reducible refine br_neg ?ha ?_); (case ha => exact gB)) | ((with_reducible refine br_t ?ha ?_); (case ha => with_reducible assumption)) | ((with_reducible refine br_f ?ha ?_); (case ha => with_reducible assumption)) | ((with_reducible refine br_dec (fun h => ?_) (fun h => ?_))) | ((with_reducible refine br_not ?_)) | ((with_reducible refine br_b (fun h => ?_) (fun h => ?_))) | ((with_reducible refine wr_i64 rfl ?ha ?hb ?_); (case ha => exact gB); (case hb => exact gB)) | ((with_reducible refine wr_u64 rfl ?ha ?hb ?_); (case ha => exact gB); (case hb => exact gB)) | ((with_reducible refine wr_u32 rfl ?ha ?hb ?_); (case ha => exact gB); (case hb => exact gB)) | ((with_reducible refine And.intro ?_ ?_)) | ((with_reducible refine True.intro)) | ((with_reducible refine Stp.go ?_)) | skip))
  refine cstabInt t l hl hm ?_
  iterate 9 (all_goals ((conv => whnf); first | ((with_reducible refine sl_full ?ha ?_); (case ha => exact gA)) | ((with_reducible refine Ob.intro ?ha ?_); (case ha => exact gC)) | ((with_reducible refine br_lt ?_)) | ((with_reducible refine br_lf ?_)) | ((with_reducible refine br_pos ?ha ?_); (case ha => exact gB)) | ((with_reducible refine br_neg ?ha ?_); (case ha => exact gB)) | ((with_reducible refine br_t ?ha ?_); (case ha => with_reducible assumption)) | ((with_reducible refine br_f ?ha ?_); (case ha => with_reducible assumption)) | ((with_reducible refine br_dec (fun h => ?_) (fun h => ?_))) | ((with_reducible refine br_not ?_)) | ((with_reducible refine br_b (fun h => ?_) (fun h => ?_))) | ((with_reducible refine wr_i64 rfl ?ha ?hb ?_); (case ha => exact gB); (case hb => exact gB)) | ((with_reducible refine wr_u64 rfl ?ha ?hb ?_); (case ha => exact gB); (case hb => exact gB)) | ((with_reducible refine wr_u32 rfl ?ha ?hb ?_); (case ha => exact gB); (case hb => exact gB)) | ((with_reducible refine And.intro ?_ ?_)) | ((with_reducible refine True.intro)) | ((with_reducible refine Stp.go ?_)) | skip))
  exact hK
end Go.Proofs.YtgcplfplbcpemaaGreat

set_option linter.unusedVariables false
set_option maxRecDepth 20000
namespace Go.Proofs.YtgcplfplbcpemaaGreat
open Go Go.Vm

/-- netsegment/addressing.Plan -/
noncomputable def gplan : Ctx := { N := 92, np := 0, own := fun i => match Nat.beq i 30 with | true => true | false => false, plan := fun i => match Nat.beq i 3 with | true => some (lin [(0, true), (1, true), (3, true), (4, true), (6, true), (7, true), (9, true), (10, true), (2, false), (12, true), (5, false), (8, false), (11, false), (13, false), (14, true), (15, false), (16, true), (17, false), (18, true), (19, false)]) | false => match Nat.beq i 20 with | true => some (.one 0 true (.one 1 true (.one 2 true (.one 3 true (.one 5 true (.one 6 true (.one 7 true (.one 8 true (.one 9 true (.one 10 true (.alt 4 (.one 11 false (.one 12 true (.one 13 true (.one 14 false (.done))))) (.alt 11 (.one 4 true (.one 12 true (.one 13 true (.one 14 false (.done))))) (.stop))))))))))))) | false => none, hints := fun i => match Nat.beq i 4 with | true => [.virtB 1 2 6] | false => match Nat.beq i 5 with | true => [.virt 4 1] | false => [], cut := fun _ => false, lend := fun i => match Nat.beq i 28 with | true => true | false => match Nat.beq i 35 with | true => true | false => match Nat.beq i 33 with | true => true | false => match Nat.beq i 34 with | true => true | false => false }
noncomputable def bplan : Code := match Tryz.f12.body with | some c => c | none => .skip
theorem ofplan {args : List AV} {hs : List Vm.Obj} {K : AV → List Vm.Obj → Prop} (hp : Nat.beq gplan.np hs.length = true) (ha : Nat.ble args.length 92 = true) (hq : initQ hs args fun σ => codeQ Tryz.prog gplan bplan σ (retQ Tryz.prog gplan Tryz.f12.results.toList K)) : ACall Tryz.prog 12 args hs K :=
  ACall.of_code (Γ := gplan) Tryz.func12 (by kernel_rfl) (by kernel_rfl) (by kernel_rfl) (by kernel_rfl) (Nat.eq_of_beq_eq_true hp) ha hq
/-- netsegment/addressing.Fits -/
noncomputable def gfits : Ctx := { N := 12, np := 0, own := fun _ => false, plan := fun _ => none, hints := fun _ => [], cut := fun _ => false }
noncomputable def bfits : Code := match Tryz.f18.body with | some c => c | none => .skip
theorem offits {args : List AV} {hs : List Vm.Obj} {K : AV → List Vm.Obj → Prop} (hp : Nat.beq gfits.np hs.length = true) (ha : Nat.ble args.length 12 = true) (hq : initQ hs args fun σ => codeQ Tryz.prog gfits bfits σ (retQ Tryz.prog gfits Tryz.f18.results.toList K)) : ACall Tryz.prog 18 args hs K :=
  ACall.of_code (Γ := gfits) Tryz.func18 (by kernel_rfl) (by kernel_rfl) (by kernel_rfl) (by kernel_rfl) (Nat.eq_of_beq_eq_true hp) ha hq

end Go.Proofs.YtgcplfplbcpemaaGreat

set_option linter.unusedVariables false
set_option linter.unusedSimpArgs false
set_option maxRecDepth 20000
namespace Go.Proofs.YtgcplfplbcpemaaGreat
open Go Go.Vm

open Classical in
/-- the canonical list with these members -/
noncomputable def canonOf (f : Int → Bool) : List Rg := if h : ∃ l, Canon l ∧ ∀ v, has l v = f v then h.choose else []
theorem canonOf_eq {f : Int → Bool} {l : List Rg} (hc : Canon l) (hf : ∀ v, has l v = f v) : canonOf f = l := by
  have h : ∃ l, Canon l ∧ ∀ v, has l v = f v := ⟨l, hc, hf⟩
  rw [canonOf, dif_pos h]
  obtain ⟨h1, h2⟩ := h.choose_spec
  exact canon_ext h1 hc fun v => by rw [h2, hf]
/-- the free addresses -/
noncomputable def freeOf (pools : List Pf) (edges : List Ed) : List Rg := canonOf fun v => (pools.any fun p => p.has v) && !((fixed edges).any fun p => p.has v)
/-- the planned edges -/
def isPl (l : List Ed) (i : Nat) : Bool := ((l[i]?).map fun e => e.pl).getD false
def plIx (l : List Ed) : List Nat := (List.range l.length).filter (isPl l)
def mkPf (a b : Int) : Pf := if h : 0 ≤ a ∧ a ≤ 4294967295 then ⟨a, b, h.1, h.2⟩ else ⟨0, b, by omega, by omega⟩
def setE (l : List Ed) (i : Nat) (a : Int) : List Ed := match l[i]? with
  | some e => l.set i { e with pf := mkPf a e.pf.bits, pl := false }
  | none => l
/-- what is left of the free addresses -/
noncomputable def cutOf (sp : List Rg) (a n : Int) : List Rg := canonOf fun v => has sp v && !(decide (a ≤ v) && decide (v ≤ a + n - 1))
/-- one edge after the other -/
noncomputable def planGo : List Nat → List Ed → List Rg → Option (List Ed)
  | [], es, _ => some es
  | i :: r, es, sp => match es[i]? with
    | none => none
    | some e => match lowest sp (pz e.pf.bits) with
      | none => none
      | some a => planGo r (setE es i a) (cutOf sp a (pz e.pf.bits))
noncomputable def planOf (t : Tp) : Option (List Ed) := planGo (isort (ltB t) (plIx t.edges)) t.edges (freeOf t.pools t.edges)
def noTop : Tp := ⟨[], [], [], [], 0⟩
noncomputable def planT (t : Tp) : Tp := match topB t, planOf t with
  | true, some es => { t with edges := es }
  | _, _ => noTop
noncomputable def planE (t : Tp) : Int := match topB t, planOf t with
  | true, some _ => 0
  | true, none => 9
  | false, _ => 1
end Go.Proofs.YtgcplfplbcpemaaGreat

set_option linter.unusedVariables false
set_option linter.unusedSimpArgs false
set_option maxHeartbeats 4000000
set_option maxRecDepth 20000
namespace Go.Proofs.YtgcplfplbcpemaaGreat
open Go Go.Vm

noncomputable abbrev boxZ : Vm.Obj := .box [.nils, .nils, .nils, .nils, .v (.int .i64 0)]
def plTo (l : List Ed) (k : Nat) : List Nat := (List.range k).filter (isPl l)
theorem plTo_succ {l : List Ed} {k : Nat} {e : Ed} (h : l[k]? = some e) : plTo l (k + 1) = plTo l k ++ (if e.pl then [k] else []) := by
  unfold plTo
  rw [List.range_succ, List.filter_append]
  cases he : e.pl <;> simp [isPl, h, he]
theorem plTo_len (l : List Ed) (k : Nat) : (plTo l k).length ≤ k := by
  unfold plTo
  have := List.length_filter_le (isPl l) (List.range k)
  simpa using this
/-- the loop that gathers the planned edges -/
noncomputable abbrev S1 (t : Tp) (k : Nat) : St := ⟨4, [(0, boxO t 2 t.edges.length), (1, boxZ), (2, .arr 6 (t.edges.map encE)), (3, .arr 1 ((plTo t.edges k).map encN))],
  [(1, .op 0 0), (2, .op 1 0), (4, .os 3 1 0 (plTo t.edges k).length), (33, .os 2 6 0 t.edges.length), (34, .v (.int .i64 t.edges.length)), (35, .v (.int .i64 k))]⟩
theorem okP_bits {p : Pf} (h : p.okP) : 0 ≤ p.bits ∧ p.bits ≤ 32 := ⟨h.1, h.2.1⟩
theorem isort_length {α : Type} (lt : α → α → Bool) (l : List α) : (isort lt l).length = l.length := by rw [isort, List.length_reverse, sortRev_length]
theorem plIx_lt {l : List Ed} {i : Nat} (h : i ∈ plIx l) : i < l.length := by
  simpa using (List.mem_filter.1 h).1
/-- the loop that places them -/
noncomputable abbrev S2 (t : Tp) (L : List Nat) (g : Nat × List Ed × List Rg) : St := ⟨5, [(0, boxO t 2 t.edges.length), (1, boxZ), (2, .arr 6 (g.2.1.map encE)), (3, .arr 1 (L.map encN)), (4, .arr 2 (g.2.2.map encR))],
  [(1, .op 0 0), (2, .op 1 0), (7, .os 4 2 0 g.2.2.length), (52, .os 3 1 0 L.length), (53, .v (.int .i64 L.length)), (54, .v (.int .i64 g.1))]⟩
structure Inv2 (t : Tp) (L : List Nat) (g : Nat × List Ed × List Rg) : Prop where
  le : g.1 ≤ L.length
  go : planGo (L.drop g.1) g.2.1 g.2.2 = planOf t
  sp : g.2.2.length ≤ 21 + 2 * g.1
  es : g.2.1.length = t.edges.length
  bits : ∀ e, e ∈ g.2.1 → 0 ≤ e.pf.bits ∧ e.pf.bits ≤ 32
theorem setE_at {l : List Ed} {i : Nat} {e : Ed} (h : l[i]? = some e) (a : Int) : setE l i a = l.set i { e with pf := mkPf a e.pf.bits, pl := false } := by
  unfold setE; rw [h]
theorem setE_length (l : List Ed) (i : Nat) (a : Int) : (setE l i a).length = l.length := by
  unfold setE; split <;> simp
theorem mkPf_bits (a b : Int) : (mkPf a b).bits = b := by unfold mkPf; split <;> rfl
theorem mkPf_addr {a b : Int} (h0 : 0 ≤ a) (h1 : a ≤ 4294967295) : (mkPf a b).addr = a := by unfold mkPf; rw [dif_pos ⟨h0, h1⟩]
theorem setE_bits {l : List Ed} {i : Nat} {a : Int} (h : ∀ e, e ∈ l → 0 ≤ e.pf.bits ∧ e.pf.bits ≤ 32) : ∀ e, e ∈ setE l i a → 0 ≤ e.pf.bits ∧ e.pf.bits ≤ 32 := by
  unfold setE
  split
  · rename_i e0 he
    intro e hm
    rcases List.mem_or_eq_of_mem_set hm with hm | rfl
    · exact h e hm
    · rw [show ({ e0 with pf := mkPf a e0.pf.bits, pl := false } : Ed).pf = mkPf a e0.pf.bits from rfl, mkPf_bits]; exact h e0 (List.mem_of_getElem? he)
  · exact h
/-- addressing.Plan -/
theorem cplan (t : Tp) {K : AV → List Vm.Obj → Prop} (hK : K (.tup [encT (planT t), .v (.int .i64 (planE t))]) []) : ACall Tryz.prog 12 [encT t] [] K := by
  refine ACall.weak (ofplan rfl rfl ?_)
  iterate 12 (all_goals ((conv => whnf); first | (with_reducible refine ctVal t ?_) | ((with_reducible refine sl_full ?ha ?_); (case ha => exact gA)) | ((with_reducible refine Ob.intro ?ha ?_); (case ha => exact gC)) | ((with_reducible refine br_lt ?_)) | ((with_reducible refine br_lf ?_)) | ((with_reducible refine br_pos ?ha ?_); (case ha => exact gB)) | ((with_reducible refine br_neg ?ha ?_); (case ha => exact gB)) | ((with_reducible refine br_t ?ha ?_); (case ha => with_reducible assumption)) | ((with_reducible refine br_f ?ha ?_); (case ha => with_reducible assumption)) | ((with_reducible refine br_dec (fun h => ?_) (fun h => ?_))) | ((with_reducible refine br_not ?_)) | ((with_reducible refine br_b (fun h => ?_) (fun h => ?_))) | ((with_reducible refine wr_i64 rfl ?ha ?hb ?_); (case ha => exact gB); (case hb => exact gB)) | ((with_reducible refine wr_u64 rfl ?ha ?hb ?_); (case ha => exact gB); (case hb => exact gB)) | ((with_reducible refine wr_u32 rfl ?ha ?hb ?_); (case ha => exact gB); (case hb => exact gB)) | ((with_reducible refine And.intro ?_ ?_)) | ((with_reducible refine True.intro)) | ((with_reducible refine Stp.go ?_)) | skip))
  · have ht := topB_iff.1 h
    have := ht.d1; have := ht.l1; have := ht.e1; have := ht.p1
    iterate 30 (all_goals ((conv => whnf); first | (with_reducible refine cclD _ (by omega) ?_) | (with_reducible refine cclL _ (by omega) ?_) | (with_reducible refine cclP _ (by omega) ?_) | (with_reducible refine cclE _ (by omega) (fun he => ?_) ?_) | ((with_reducible refine sl_full ?ha ?_); (case ha => exact gA)) | ((with_reducible refine Ob.intro ?ha ?_); (case ha => exact gC)) | ((with_reducible refine br_lt ?_)) | ((with_reducible refine br_lf ?_)) | ((with_reducible refine br_pos ?ha ?_); (case ha => exact gB)) | ((with_reducible refine br_neg ?ha ?_); (case ha => exact gB)) | ((with_reducible refine br_t ?ha ?_); (case ha => with_reducible assumption)) | ((with_reducible refine br_f ?ha ?_); (case ha => with_reducible assumption)) | ((with_reducible refine br_dec (fun h => ?_) (fun h => ?_))) | ((with_reducible refine br_not ?_)) | ((with_reducible refine br_b (fun h => ?_) (fun h => ?_))) | ((with_reducible refine wr_i64 rfl ?ha ?hb ?_); (case ha => exact gB); (case hb => exact gB)) | ((with_reducible refine wr_u64 rfl ?ha ?hb ?_); (case ha => exact gB); (case hb => exact gB)) | ((with_reducible refine wr_u32 rfl ?ha ?hb ?_); (case ha => exact gB); (case hb => exact gB)) | ((with_reducible refine And.intro ?_ ?_)) | ((with_reducible refine True.intro)) | ((with_reducible refine Stp.go ?_)) | skip))
    all_goals refine Lp.intro Nat (S1 t) (fun k => k ≤ t.edges.length) (fun k => t.edges.length - k) 0 (Nat.zero_le _) ?_ ?_
    · unfold S1; rw [he]
      exact ⟨[(0, 0), (1, 1), (2, 2), (3, 3)], rfl, ⟨rfl, rfl, rfl, rfl, rfl, rfl, trivial⟩, rfl, rfl, rfl, rfl, trivial⟩
    rotate_left
    · unfold S1
      exact ⟨[(0, 0), (1, 1), (2, 2), (3, 3)], rfl, ⟨rfl, rfl, rfl, rfl, rfl, rfl, trivial⟩, rfl, rfl, rfl, rfl, trivial⟩
    all_goals
      intro k hk
      rcases Nat.lt_or_ge k t.edges.length with hkl | hkl
      · obtain ⟨r, hr⟩ : ∃ r, t.edges[k]? = some r := ⟨_, List.getElem?_eq_getElem hkl⟩
        have hr0 : t.edges[0 + k]? = some r := by rw [Nat.zero_add]; exact hr
        have hs := plTo_succ hr
        have hl := plTo_len t.edges k
        iterate 40 (all_goals ((conv => whnf); first | (with_reducible refine in_nat hkl ?_) | (with_reducible refine ix_map hr0 ?_) | ((with_reducible refine sl_full ?ha ?_); (case ha => exact gA)) | ((with_reducible refine Ob.intro ?ha ?_); (case ha => exact gC)) | ((with_reducible refine br_lt ?_)) | ((with_reducible refine br_lf ?_)) | ((with_reducible refine br_pos ?ha ?_); (case ha => exact gB)) | ((with_reducible refine br_neg ?ha ?_); (case ha => exact gB)) | ((with_reducible refine br_t ?ha ?_); (case ha => with_reducible assumption)) | ((with_reducible refine br_f ?ha ?_); (case ha => with_reducible assumption)) | ((with_reducible refine br_dec (fun h => ?_) (fun h => ?_))) | ((with_reducible refine br_not ?_)) | ((with_reducible refine br_b (fun h => ?_) (fun h => ?_))) | ((with_reducible refine wr_i64 rfl ?ha ?hb ?_); (case ha => exact gB); (case hb => exact gB)) | ((with_reducible refine wr_u64 rfl ?ha ?hb ?_); (case ha => exact gB); (case hb => exact gB)) | ((with_reducible refine wr_u32 rfl ?ha ?hb ?_); (case ha => exact gB); (case hb => exact gB)) | ((with_reducible refine And.intro ?_ ?_)) | ((with_reducible refine True.intro)) | ((with_reducible refine Stp.go ?_)) | skip))
        · refine ⟨k + 1, by omega, by omega, ?_⟩
          unfold S1
          rw [hs, h, if_pos rfl, List.map_append, List.length_append]
          exact ⟨[(0, 0), (1, 1), (2, 2), (3, 6)], rfl, ⟨rfl, rfl, rfl, rfl, rfl, rfl, trivial⟩, rfl, rfl, rfl, rfl, trivial⟩
        · refine ⟨k + 1, by omega, by omega, ?_⟩
          unfold S1
          rw [hs, h, if_neg (by simp), List.append_nil]
          exact ⟨[(0, 0), (1, 1), (2, 2), (3, 3)], rfl, ⟨rfl, rfl, rfl, rfl, rfl, rfl, trivial⟩, rfl, rfl, rfl, rfl, trivial⟩
      · have e : plTo t.edges k = plIx t.edges := by rw [show k = t.edges.length by omega]; rfl
        have hlx : (plIx t.edges).length ≤ 12 := by have := plTo_len t.edges k; rw [e] at this; omega
        have hfp : ∀ p, p ∈ t.pools → p.okP := fun p hp => by
          obtain ⟨i, hi⟩ := List.mem_iff_getElem?.1 hp
          exact (ht.pool i p hi).1
        have hfe : ∀ e, e ∈ t.edges → e.pf.okP := fun e hm => by
          obtain ⟨i, hi⟩ := List.mem_iff_getElem?.1 hm
          exact (ht.edge i e hi).1.2.2.2.2.2.1
        have hbits : ∀ e, e ∈ t.edges → 0 ≤ e.pf.bits ∧ e.pf.bits ≤ 32 := fun e hm => okP_bits (hfe e hm)
        have hkl2 : t.edges.length ≤ k := hkl
        unfold S1
        rw [e]
        iterate 20 (all_goals ((conv => whnf); first | (with_reducible refine csortStab t _ hlx (fun i hi => plIx_lt hi) ?_) | (with_reducible refine caFree t hfp hfe (by omega) (by omega) fun sp s1 s2 s3 => ?_) | ((with_reducible refine sl_full ?ha ?_); (case ha => exact gA)) | ((with_reducible refine Ob.intro ?ha ?_); (case ha => exact gC)) | ((with_reducible refine br_lt ?_)) | ((with_reducible refine br_lf ?_)) | ((with_reducible refine br_pos ?ha ?_); (case ha => exact gB)) | ((with_reducible refine br_neg ?ha ?_); (case ha => exact gB)) | ((with_reducible refine br_t ?ha ?_); (case ha => with_reducible assumption)) | ((with_reducible refine br_f ?ha ?_); (case ha => with_reducible assumption)) | ((with_reducible refine br_dec (fun h => ?_) (fun h => ?_))) | ((with_reducible refine br_not ?_)) | ((with_reducible refine br_b (fun h => ?_) (fun h => ?_))) | ((with_reducible refine wr_i64 rfl ?ha ?hb ?_); (case ha => exact gB); (case hb => exact gB)) | ((with_reducible refine wr_u64 rfl ?ha ?hb ?_); (case ha => exact gB); (case hb => exact gB)) | ((with_reducible refine wr_u32 rfl ?ha ?hb ?_); (case ha => exact gB); (case hb => exact gB)) | ((with_reducible refine And.intro ?_ ?_)) | ((with_reducible refine True.intro)) | ((with_reducible refine Stp.go ?_)) | skip))
        generalize hL : isort (ltB t) (plIx t.edges) = L
        have hLl : L.length ≤ 12 := by rw [← hL, isort_length]; exact hlx
        have hlen : (plIx t.edges).length = L.length := by rw [← hL, isort_length]
        rw [hlen]
        have hLm : ∀ i, i ∈ L → i < t.edges.length := fun i hi => plIx_lt (isort_mem.1 (by rw [hL]; exact hi))
        refine Lp.intro (Nat × List Ed × List Rg) (S2 t L) (Inv2 t L) (fun g => L.length - g.1) (0, t.edges, sp) ?_ ?_ ?_
        · exact ⟨Nat.zero_le _, by rw [List.drop_zero, planOf, hL, freeOf, canonOf_eq s1 s2], s3, rfl, hbits⟩
        · unfold S2; (refine Le.auto ?_; repeat' ((conv => whnf); first | with_reducible refine And.intro ?_ ?_ | with_reducible exact True.intro | rfl))
        · rintro ⟨k2, es, sp2⟩ ⟨i1, i2, i3, i4, i5⟩
          simp only at i1 i2 i3 i4 i5 ⊢
          rcases Nat.lt_or_ge k2 L.length with hk2 | hk2
          · obtain ⟨i, hi⟩ : ∃ i, L[k2]? = some i := ⟨_, List.getElem?_eq_getElem hk2⟩
            have hiL := hLm i (List.mem_of_getElem? hi)
            obtain ⟨ed, he⟩ : ∃ e, es[i]? = some e := ⟨_, List.getElem?_eq_getElem (by omega)⟩
            have hi0 : L[0 + k2]? = some i := by rw [Nat.zero_add]; exact hi
            have he0 : es[0 + i]? = some ed := by rw [Nat.zero_add]; exact he
            have hib := i5 ed (List.mem_of_getElem? he)
            have hpz := pz_pos ed.pf.bits
            have hset : 0 + i < (es.map encE).length := by rw [List.length_map]; omega
            have hdr : L.drop k2 = i :: L.drop (k2 + 1) := by
              rw [List.getElem?_eq_getElem hk2] at hi
              rw [← Option.some.inj hi, ← List.drop_eq_getElem_cons hk2]
            rw [hdr] at i2
            unfold S2
            iterate 24 (all_goals ((conv => whnf); first | (with_reducible refine in_nat hk2 ?_) | (with_reducible refine ix_map hi0 ?_) | (with_reducible refine in_nat hiL ?_) | (with_reducible refine ix_map he0 ?_) | (with_reducible refine caLow sp2 _ hib.1 hib.2 (by omega) (fun hno => ?_) (fun a ha a0 a1 => ?_)) | ((with_reducible refine sl_full ?ha ?_); (case ha => exact gA)) | ((with_reducible refine Ob.intro ?ha ?_); (case ha => exact gC)) | ((with_reducible refine br_lt ?_)) | ((with_reducible refine br_lf ?_)) | ((with_reducible refine br_pos ?ha ?_); (case ha => exact gB)) | ((with_reducible refine br_neg ?ha ?_); (case ha => exact gB)) | ((with_reducible refine br_t ?ha ?_); (case ha => with_reducible assumption)) | ((with_reducible refine br_f ?ha ?_); (case ha => with_reducible assumption)) | ((with_reducible refine br_dec (fun h => ?_) (fun h => ?_))) | ((with_reducible refine br_not ?_)) | ((with_reducible refine br_b (fun h => ?_) (fun h => ?_))) | ((with_reducible refine wr_i64 rfl ?ha ?hb ?_); (case ha => exact gB); (case hb => exact gB)) | ((with_reducible refine wr_u64 rfl ?ha ?hb ?_); (case ha => exact gB); (case hb => exact gB)) | ((with_reducible refine wr_u32 rfl ?ha ?hb ?_); (case ha => exact gB); (case hb => exact gB)) | ((with_reducible refine And.intro ?_ ?_)) | ((with_reducible refine True.intro)) | ((with_reducible refine Stp.go ?_)) | skip))
            · have hpn : planOf t = none := by rw [← i2, planGo, he]; simp only; rw [hno]
              iterate 24 (all_goals ((conv => whnf); first | ((with_reducible refine sl_full ?ha ?_); (case ha => exact gA)) | ((with_reducible refine Ob.intro ?ha ?_); (case ha => exact gC)) | ((with_reducible refine br_lt ?_)) | ((with_reducible refine br_lf ?_)) | ((with_reducible refine br_pos ?ha ?_); (case ha => exact gB)) | ((with_reducible refine br_neg ?ha ?_); (case ha => exact gB)) | ((with_reducible refine br_t ?ha ?_); (case ha => with_reducible assumption)) | ((with_reducible refine br_f ?ha ?_); (case ha => with_reducible assumption)) | ((with_reducible refine br_dec (fun h => ?_) (fun h => ?_))) | ((with_reducible refine br_not ?_)) | ((with_reducible refine br_b (fun h => ?_) (fun h => ?_))) | ((with_reducible refine wr_i64 rfl ?ha ?hb ?_); (case ha => exact gB); (case hb => exact gB)) | ((with_reducible refine wr_u64 rfl ?ha ?hb ?_); (case ha => exact gB); (case hb => exact gB)) | ((with_reducible refine wr_u32 rfl ?ha ?hb ?_); (case ha => exact gB); (case hb => exact gB)) | ((with_reducible refine And.intro ?_ ?_)) | ((with_reducible refine True.intro)) | ((with_reducible refine Stp.go ?_)) | skip))
              refine ⟨.tup [encT noTop, .v (.int .i64 9)], Weak.tup2 (Weak.agg ⟨Weak.nils, Weak.nils, Weak.nils, Weak.nils, Weak.refl, trivial⟩) Weak.refl, ?_⟩
              rw [planT, planE, h, hpn] at hK
              exact hK
            · have hgo : planGo (L.drop (k2 + 1)) (setE es i a) (cutOf sp2 a (pz ed.pf.bits)) = planOf t := by rw [← i2, planGo, he]; simp only; rw [ha]
              have hsub : ∀ (K : AV → List Vm.Obj → Prop), (∀ out, Canon out → (∀ v, has out v = (has sp2 v && !has [mkR a (a + pz ed.pf.bits - 1)] v)) → out.length ≤ sp2.length + 2 → K (.os 0 2 0 out.length) [.arr 2 (out.map encR)]) →
                  ACall Tryz.prog 35 [encRs sp2, .lst [.agg [.v (.int .u32 a), .v (.int .u32 (a + pz ed.pf.bits - 1))]]] [] K := by
                intro K hK
                have := c24r sp2 [mkR a (a + pz ed.pf.bits - 1)] (by omega) (by simp) (K := K) (fun out h1 h2 h3 => hK out h1 h2 (by simpa using h3))
                rw [show encRs [mkR a (a + pz ed.pf.bits - 1)] = .lst [.agg [.v (.int .u32 a), .v (.int .u32 (a + pz ed.pf.bits - 1))]] by
                  simp only [encRs, List.map_cons, List.map_nil]; rw [enc_mkR a0 (by omega) (by omega) a1]] at this
                exact this
              iterate 40 (all_goals ((conv => whnf); first | (with_reducible refine in_nat hiL ?_) | (with_reducible refine ix_map he0 ?_) | (with_reducible refine ix_set hset ?_) | (with_reducible refine hsub _ (fun out o1 o2 o3 => ?_)) | ((with_reducible refine sl_full ?ha ?_); (case ha => exact gA)) | ((with_reducible refine Ob.intro ?ha ?_); (case ha => exact gC)) | ((with_reducible refine br_lt ?_)) | ((with_reducible refine br_lf ?_)) | ((with_reducible refine br_pos ?ha ?_); (case ha => exact gB)) | ((with_reducible refine br_neg ?ha ?_); (case ha => exact gB)) | ((with_reducible refine br_t ?ha ?_); (case ha => with_reducible assumption)) | ((with_reducible refine br_f ?ha ?_); (case ha => with_reducible assumption)) | ((with_reducible refine br_dec (fun h => ?_) (fun h => ?_))) | ((with_reducible refine br_not ?_)) | ((with_reducible refine br_b (fun h => ?_) (fun h => ?_))) | ((with_reducible refine wr_i64 rfl ?ha ?hb ?_); (case ha => exact gB); (case hb => exact gB)) | ((with_reducible refine wr_u64 rfl ?ha ?hb ?_); (case ha => exact gB); (case hb => exact gB)) | ((with_reducible refine wr_u32 rfl ?ha ?hb ?_); (case ha => exact gB); (case hb => exact gB)) | ((with_reducible refine And.intro ?_ ?_)) | ((with_reducible refine True.intro)) | ((with_reducible refine Stp.go ?_)) | skip))
              all_goals
                have hcut : cutOf sp2 a (pz ed.pf.bits) = out := canonOf_eq o1 fun v => by
                  rw [o2, has_one, mkR_lo a0 (by omega) (by omega) a1, mkR_hi a0 (by omega) (by omega) a1]
                rw [hcut] at hgo
                refine ⟨(k2 + 1, setE es i a, out), ⟨by show k2 + 1 ≤ _; omega, hgo, by show out.length ≤ 21 + 2 * (k2 + 1); omega, by rw [setE_length]; exact i4, setE_bits i5⟩, by show L.length - (k2 + 1) < _; omega, ?_⟩
                simp only
                have harr : ((es.map encE).set (0 + i) (.agg [.v (.string ed.name), .v (.int .i64 ed.dev), .v (.string ed.zone), .v (.int .u32 a), .v (.int .i64 ed.pf.bits), .sb ed.pl])).set (0 + i)
                    (.agg [.v (.string ed.name), .v (.int .i64 ed.dev), .v (.string ed.zone), .v (.int .u32 a), .v (.int .i64 ed.pf.bits), .sb false]) = (setE es i a).map encE := by
                  rw [setE_at he, List.map_set, List.set_set, Nat.zero_add]
                  simp only [encE, mkPf_addr a0 (show a ≤ 4294967295 by omega), mkPf_bits]
                (refine Le.auto ?_; repeat' ((conv => whnf); first | with_reducible refine And.intro ?_ ?_ | with_reducible exact True.intro | rfl))
                rw [← harr]
                rfl
          · have hpn : planOf t = some es := by rw [← i2, List.drop_of_length_le hk2]; rfl
            unfold S2
            iterate 24 (all_goals ((conv => whnf); first | ((with_reducible refine sl_full ?ha ?_); (case ha => exact gA)) | ((with_reducible refine Ob.intro ?ha ?_); (case ha => exact gC)) | ((with_reducible refine br_lt ?_)) | ((with_reducible refine br_lf ?_)) | ((with_reducible refine br_pos ?ha ?_); (case ha => exact gB)) | ((with_reducible refine br_neg ?ha ?_); (case ha => exact gB)) | ((with_reducible refine br_t ?ha ?_); (case ha => with_reducible assumption)) | ((with_reducible refine br_f ?ha ?_); (case ha => with_reducible assumption)) | ((with_reducible refine br_dec (fun h => ?_) (fun h => ?_))) | ((with_reducible refine br_not ?_)) | ((with_reducible refine br_b (fun h => ?_) (fun h => ?_))) | ((with_reducible refine wr_i64 rfl ?ha ?hb ?_); (case ha => exact gB); (case hb => exact gB)) | ((with_reducible refine wr_u64 rfl ?ha ?hb ?_); (case ha => exact gB); (case hb => exact gB)) | ((with_reducible refine wr_u32 rfl ?ha ?hb ?_); (case ha => exact gB); (case hb => exact gB)) | ((with_reducible refine And.intro ?_ ?_)) | ((with_reducible refine True.intro)) | ((with_reducible refine Stp.go ?_)) | skip))
            refine ⟨_, Weak.refl, ?_⟩
            rw [planT, planE, h, hpn] at hK
            exact hK
  · refine ⟨.tup [encT noTop, .v (.int .i64 1)], Weak.tup2 (Weak.agg ⟨Weak.nils, Weak.nils, Weak.nils, Weak.nils, Weak.refl, trivial⟩) Weak.refl, ?_⟩
    rw [planT, planE, h] at hK
    exact hK
end Go.Proofs.YtgcplfplbcpemaaGreat

