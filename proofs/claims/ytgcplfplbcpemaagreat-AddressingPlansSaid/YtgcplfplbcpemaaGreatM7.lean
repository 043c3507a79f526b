/- Topologies: what is valid. The program's. Topologies: what is valid. The reference's. -/
import Derived.Test.YtgcplfplbcpemaaGreatM6
set_option linter.unusedVariables false
set_option linter.unusedSimpArgs false
set_option maxRecDepth 20000
namespace Go.Proofs.YtgcplfplbcpemaaGreat
open Go Go.Vm

def linkOk (n : Int) (l : Lk) : Prop := 0 ≤ l.a ∧ l.a < l.b ∧ l.b < n ∧ 1 ≤ l.cost ∧ l.cost ≤ 1000
def apartE (e o : Ed) : Prop := ¬ (e.pl = false ∧ o.pl = false ∧ e.pf.meet o.pf = true)
theorem take_get {α : Type} {l : List α} {k j : Nat} {o : α} : (l.take k)[j]? = some o ↔ (j < k ∧ l[j]? = some o) := by
  rw [List.getElem?_take]
  split
  · rename_i h; exact ⟨fun h1 => ⟨h, h1⟩, fun h1 => h1.2⟩
  · rename_i h
    refine ⟨fun h1 => ?_, fun h1 => absurd h1.1 h⟩
    cases h1
structure TopOk (t : Tp) : Prop where
  d0 : 1 ≤ t.devs.length
  d1 : t.devs.length ≤ 12
  l1 : t.links.length ≤ 24
  e1 : t.edges.length ≤ 12
  p1 : t.pools.length ≤ 8
  t0 : 0 ≤ t.tol
  t1 : t.tol ≤ 2
  dev : ∀ (i : Nat) d, t.devs[i]? = some d → devOk d ∧ devIx t.devs d.name = i
  link : ∀ (i : Nat) l, t.links[i]? = some l → linkOk t.devs.length l
  edge : ∀ (i : Nat) e, t.edges[i]? = some e → edgeOk t.devs.length e ∧ edgeIx t.edges e.name = i
  apart : ∀ (i : Nat) e, t.edges[i]? = some e → ∀ (j : Nat) o, j < i → t.edges[j]? = some o → apartE e o
  pool : ∀ (i : Nat) p, t.pools[i]? = some p → p.okP ∧ ∀ (j : Nat) q, j < i → t.pools[j]? = some q → p.meet q = false
open Classical in
noncomputable def topB (t : Tp) : Bool := decide (TopOk t)
theorem topB_true {t : Tp} (h : TopOk t) : topB t = true := by simp [topB, h]
theorem topB_false {t : Tp} (h : ¬ TopOk t) : topB t = false := by simp [topB, h]
theorem topB_iff {t : Tp} : topB t = true ↔ TopOk t := by simp [topB]

/-- topology.Valid$1 -/
theorem ctVal1 (p q : Pf) {K : AV → List Vm.Obj → Prop} (hK : K (.sb (p.meet q)) []) : ACall Tryz.prog 50 [encP q, .fp [.v (.int .u32 p.addr), .v (.int .i64 p.bits)]] [] K := by
  refine oftVal1 rfl rfl ?_
  iterate 9 (all_goals ((conv => whnf); first | (with_reducible refine ctOvl p q ?_) | ((with_reducible refine sl_full ?ha ?_); (case ha => exact gA)) | ((with_reducible refine Ob.intro ?ha ?_); (case ha => exact gC)) | ((with_reducible refine br_lt ?_)) | ((with_reducible refine br_lf ?_)) | ((with_reducible refine br_pos ?ha ?_); (case ha => exact gB)) | ((with_reducible refine br_neg ?ha ?_); (case ha => exact gB)) | ((with_reducible refine br_t ?ha ?_); (case ha => with_reducible assumption)) | ((with_reducible refine br_f ?ha ?_); (case ha => with_reducible assumption)) | ((with_reducible refine br_dec (fun h => ?_) (fun h => ?_))) | ((with_reducible refine br_not ?_)) | ((with_reducible refine br_b (fun h => ?_) (fun h => ?_))) | ((with_reducible refine wr_i64 rfl ?ha ?hb ?_); (case ha => exact gB); (case hb => exact gB)) | ((with_reducible refine wr_u64 rfl ?ha ?hb ?_); (case ha => exact gB); (case hb => exact gB)) | ((with_reducible refine wr_u32 rfl ?ha ?hb ?_); (case ha => exact gB); (case hb => exact gB)) | ((with_reducible refine And.intro ?_ ?_)) | ((with_reducible refine True.intro)) | ((with_reducible refine Stp.go ?_)) | skip))
  exact hK
/-- slices.ContainsFunc -/
theorem canyPf (l : List Pf) (p : Pf) (hl : l.length < 1000000) {K : AV → List Vm.Obj → Prop} (hK : K (.sb (l.any fun q => p.meet q)) []) :
    ACall Tryz.prog 49 [.lst (l.map encP), .fn (.func 50) [] [.fp [.v (.int .u32 p.addr), .v (.int .i64 p.bits)]]] [] K := by
  refine ACall.bool (ofanyPf rfl rfl ?_)
  iterate 9 (all_goals ((conv => whnf); first | (with_reducible refine cixPf _ _ _ (fun q => p.meet q) (fun x K h => ctVal1 p x h) hl ?_) | ((with_reducible refine sl_full ?ha ?_); (case ha => exact gA)) | ((with_reducible refine Ob.intro ?ha ?_); (case ha => exact gC)) | ((with_reducible refine br_lt ?_)) | ((with_reducible refine br_lf ?_)) | ((with_reducible refine br_pos ?ha ?_); (case ha => exact gB)) | ((with_reducible refine br_neg ?ha ?_); (case ha => exact gB)) | ((with_reducible refine br_t ?ha ?_); (case ha => with_reducible assumption)) | ((with_reducible refine br_f ?ha ?_); (case ha => with_reducible assumption)) | ((with_reducible refine br_dec (fun h => ?_) (fun h => ?_))) | ((with_reducible refine br_not ?_)) | ((with_reducible refine br_b (fun h => ?_) (fun h => ?_))) | ((with_reducible refine wr_i64 rfl ?ha ?hb ?_); (case ha => exact gB); (case hb => exact gB)) | ((with_reducible refine wr_u64 rfl ?ha ?hb ?_); (case ha => exact gB); (case hb => exact gB)) | ((with_reducible refine wr_u32 rfl ?ha ?hb ?_); (case ha => exact gB); (case hb => exact gB)) | ((with_reducible refine And.intro ?_ ?_)) | ((with_reducible refine True.intro)) | ((with_reducible refine Stp.go ?_)) | skip))
  refine fin_s hK ?_
  rw [Bool.eq_iff_iff, List.any_eq_true, decide_eq_true_eq]
  constructor
  · rintro ⟨x, hx, hp⟩
    unfold firstIx
    split
    · omega
    · rename_i hn
      rw [List.findIdx?_eq_none_iff] at hn
      have := hn x hx
      simp_all
  · intro h
    unfold firstIx at h
    split at h
    · rename_i i hi
      rw [List.findIdx?_eq_some_iff_getElem] at hi
      obtain ⟨h1, h2, _⟩ := hi
      exact ⟨_, List.getElem_mem h1, h2⟩
    · omega

noncomputable abbrev boxT (t : Tp) : Vm.Obj := .box [.lst (t.devs.map encD), .lst (t.links.map encL), .lst (t.edges.map encE), .lst (t.pools.map encP), .v (.int .i64 t.tol)]
/-- topology.Valid -/
theorem ctVal (t : Tp) {K : AV → List Vm.Obj → Prop} (hK : K (.sb (topB t)) []) : ACall Tryz.prog 25 [encT t] [] K := by
  refine ACall.bool (oftVal rfl rfl ?_)
  iterate 50 (all_goals ((conv => whnf); first | ((with_reducible refine sl_full ?ha ?_); (case ha => exact gA)) | ((with_reducible refine Ob.intro ?ha ?_); (case ha => exact gC)) | ((with_reducible refine br_lt ?_)) | ((with_reducible refine br_lf ?_)) | ((with_reducible refine br_pos ?ha ?_); (case ha => exact gB)) | ((with_reducible refine br_neg ?ha ?_); (case ha => exact gB)) | ((with_reducible refine br_t ?ha ?_); (case ha => with_reducible assumption)) | ((with_reducible refine br_f ?ha ?_); (case ha => with_reducible assumption)) | ((with_reducible refine br_dec (fun h => ?_) (fun h => ?_))) | ((with_reducible refine br_not ?_)) | ((with_reducible refine br_b (fun h => ?_) (fun h => ?_))) | ((with_reducible refine wr_i64 rfl ?ha ?hb ?_); (case ha => exact gB); (case hb => exact gB)) | ((with_reducible refine wr_u64 rfl ?ha ?hb ?_); (case ha => exact gB); (case hb => exact gB)) | ((with_reducible refine wr_u32 rfl ?ha ?hb ?_); (case ha => exact gB); (case hb => exact gB)) | ((with_reducible refine And.intro ?_ ?_)) | ((with_reducible refine True.intro)) | ((with_reducible refine Stp.go ?_)) | skip))
  all_goals first
    | (exact fin_f hK (topB_false fun hn => by
        have := hn.d0; have := hn.d1; have := hn.l1; have := hn.e1; have := hn.p1; have := hn.t0; have := hn.t1
        simp only [List.length_map] at *
        omega))
    | skip
  obtain ⟨d0, d1, l1, e1, p1, t0, t1⟩ : 1 ≤ t.devs.length ∧ t.devs.length ≤ 12 ∧ t.links.length ≤ 24 ∧ t.edges.length ≤ 12 ∧ t.pools.length ≤ 8 ∧ 0 ≤ t.tol ∧ t.tol ≤ 2 := by
    simp only [List.length_map] at *
    omega
  refine Lp.intro Nat (fun k => ⟨1, [(0, boxT t)], [(1, .op 0 0), (52, .lst (t.devs.map encD)), (53, .v (.int .i64 (t.devs.map encD).length)), (54, .v (.int .i64 k))]⟩)
    (fun k => k ≤ t.devs.length ∧ ∀ (i : Nat) d, i < k → t.devs[i]? = some d → devOk d ∧ devIx t.devs d.name = i) (fun k => t.devs.length - k) 0 ?_ ?_ ?_
  · exact ⟨Nat.zero_le _, fun i y hi => absurd hi (Nat.not_lt_zero _)⟩
  · exact ⟨[(0, 0)], rfl, ⟨rfl, rfl, rfl, rfl, trivial⟩, rfl, trivial⟩
  intro k ⟨hk, hinv⟩
  rcases Nat.lt_or_ge k t.devs.length with hkl | hkl
  · obtain ⟨r, hr⟩ : ∃ r, t.devs[k]? = some r := ⟨_, List.getElem?_eq_getElem hkl⟩
    iterate 40 (all_goals ((conv => whnf); first | (with_reducible refine in_map hkl ?_) | (with_reducible refine ix_map hr ?_) | (with_reducible refine ctDevOk r ?_) | (with_reducible refine ctDev t _ (by omega) ?_) | ((with_reducible refine sl_full ?ha ?_); (case ha => exact gA)) | ((with_reducible refine Ob.intro ?ha ?_); (case ha => exact gC)) | ((with_reducible refine br_lt ?_)) | ((with_reducible refine br_lf ?_)) | ((with_reducible refine br_pos ?ha ?_); (case ha => exact gB)) | ((with_reducible refine br_neg ?ha ?_); (case ha => exact gB)) | ((with_reducible refine br_t ?ha ?_); (case ha => with_reducible assumption)) | ((with_reducible refine br_f ?ha ?_); (case ha => with_reducible assumption)) | ((with_reducible refine br_dec (fun h => ?_) (fun h => ?_))) | ((with_reducible refine br_not ?_)) | ((with_reducible refine br_b (fun h => ?_) (fun h => ?_))) | ((with_reducible refine wr_i64 rfl ?ha ?hb ?_); (case ha => exact gB); (case hb => exact gB)) | ((with_reducible refine wr_u64 rfl ?ha ?hb ?_); (case ha => exact gB); (case hb => exact gB)) | ((with_reducible refine wr_u32 rfl ?ha ?hb ?_); (case ha => exact gB); (case hb => exact gB)) | ((with_reducible refine And.intro ?_ ?_)) | ((with_reducible refine True.intro)) | ((with_reducible refine Stp.go ?_)) | skip))
    · exact ⟨k + 1, ⟨by omega, all_succ hr ⟨devB_iff.1 (by assumption), h⟩ hinv⟩, by omega, ⟨[(0, 0)], rfl, ⟨rfl, rfl, rfl, rfl, trivial⟩, rfl, trivial⟩⟩
    · exact fin_f hK (topB_false fun hn => h (hn.dev k r hr).2)
    · exact fin_f hK (topB_false fun hn => by rw [devB_true (hn.dev k r hr).1] at h; cases h)
  have hdev := before_all hkl hinv
  iterate 20 (all_goals ((conv => whnf); first | ((with_reducible refine sl_full ?ha ?_); (case ha => exact gA)) | ((with_reducible refine Ob.intro ?ha ?_); (case ha => exact gC)) | ((with_reducible refine br_lt ?_)) | ((with_reducible refine br_lf ?_)) | ((with_reducible refine br_pos ?ha ?_); (case ha => exact gB)) | ((with_reducible refine br_neg ?ha ?_); (case ha => exact gB)) | ((with_reducible refine br_t ?ha ?_); (case ha => with_reducible assumption)) | ((with_reducible refine br_f ?ha ?_); (case ha => with_reducible assumption)) | ((with_reducible refine br_dec (fun h => ?_) (fun h => ?_))) | ((with_reducible refine br_not ?_)) | ((with_reducible refine br_b (fun h => ?_) (fun h => ?_))) | ((with_reducible refine wr_i64 rfl ?ha ?hb ?_); (case ha => exact gB); (case hb => exact gB)) | ((with_reducible refine wr_u64 rfl ?ha ?hb ?_); (case ha => exact gB); (case hb => exact gB)) | ((with_reducible refine wr_u32 rfl ?ha ?hb ?_); (case ha => exact gB); (case hb => exact gB)) | ((with_reducible refine And.intro ?_ ?_)) | ((with_reducible refine True.intro)) | ((with_reducible refine Stp.go ?_)) | skip))
  refine Lp.intro Nat (fun k => ⟨1, [(0, boxT t)], [(1, .op 0 0), (72, .lst (t.links.map encL)), (73, .v (.int .i64 (t.links.map encL).length)), (74, .v (.int .i64 k))]⟩)
    (fun k => k ≤ t.links.length ∧ ∀ (i : Nat) d, i < k → t.links[i]? = some d → linkOk t.devs.length d) (fun k => t.links.length - k) 0 ?_ ?_ ?_
  · exact ⟨Nat.zero_le _, fun i y hi => absurd hi (Nat.not_lt_zero _)⟩
  · exact ⟨[(0, 0)], rfl, ⟨rfl, rfl, rfl, rfl, trivial⟩, rfl, trivial⟩
  intro k ⟨hk, hinv⟩
  rcases Nat.lt_or_ge k t.links.length with hkl | hkl
  · obtain ⟨r, hr⟩ : ∃ r, t.links[k]? = some r := ⟨_, List.getElem?_eq_getElem hkl⟩
    iterate 50 (all_goals ((conv => whnf); first | (with_reducible refine in_map hkl ?_) | (with_reducible refine ix_map hr ?_) | ((with_reducible refine sl_full ?ha ?_); (case ha => exact gA)) | ((with_reducible refine Ob.intro ?ha ?_); (case ha => exact gC)) | ((with_reducible refine br_lt ?_)) | ((with_reducible refine br_lf ?_)) | ((with_reducible refine br_pos ?ha ?_); (case ha => exact gB)) | ((with_reducible refine br_neg ?ha ?_); (case ha => exact gB)) | ((with_reducible refine br_t ?ha ?_); (case ha => with_reducible assumption)) | ((with_reducible refine br_f ?ha ?_); (case ha => with_reducible assumption)) | ((with_reducible refine br_dec (fun h => ?_) (fun h => ?_))) | ((with_reducible refine br_not ?_)) | ((with_reducible refine br_b (fun h => ?_) (fun h => ?_))) | ((with_reducible refine wr_i64 rfl ?ha ?hb ?_); (case ha => exact gB); (case hb => exact gB)) | ((with_reducible refine wr_u64 rfl ?ha ?hb ?_); (case ha => exact gB); (case hb => exact gB)) | ((with_reducible refine wr_u32 rfl ?ha ?hb ?_); (case ha => exact gB); (case hb => exact gB)) | ((with_reducible refine And.intro ?_ ?_)) | ((with_reducible refine True.intro)) | ((with_reducible refine Stp.go ?_)) | skip))
    all_goals first
      | (refine fin_f hK (topB_false fun hn => ?_)
         obtain ⟨n1, n2, n3, n4, n5⟩ := hn.link k r hr
         simp only [List.length_map] at *
         omega)
      | (refine ⟨k + 1, ⟨by omega, all_succ hr ?_ hinv⟩, by omega, ⟨[(0, 0)], rfl, ⟨rfl, rfl, rfl, rfl, trivial⟩, rfl, trivial⟩⟩
         unfold linkOk
         simp only [List.length_map] at *
         omega)
  have hlink := before_all hkl hinv
  iterate 20 (all_goals ((conv => whnf); first | ((with_reducible refine sl_full ?ha ?_); (case ha => exact gA)) | ((with_reducible refine Ob.intro ?ha ?_); (case ha => exact gC)) | ((with_reducible refine br_lt ?_)) | ((with_reducible refine br_lf ?_)) | ((with_reducible refine br_pos ?ha ?_); (case ha => exact gB)) | ((with_reducible refine br_neg ?ha ?_); (case ha => exact gB)) | ((with_reducible refine br_t ?ha ?_); (case ha => with_reducible assumption)) | ((with_reducible refine br_f ?ha ?_); (case ha => with_reducible assumption)) | ((with_reducible refine br_dec (fun h => ?_) (fun h => ?_))) | ((with_reducible refine br_not ?_)) | ((with_reducible refine br_b (fun h => ?_) (fun h => ?_))) | ((with_reducible refine wr_i64 rfl ?ha ?hb ?_); (case ha => exact gB); (case hb => exact gB)) | ((with_reducible refine wr_u64 rfl ?ha ?hb ?_); (case ha => exact gB); (case hb => exact gB)) | ((with_reducible refine wr_u32 rfl ?ha ?hb ?_); (case ha => exact gB); (case hb => exact gB)) | ((with_reducible refine And.intro ?_ ?_)) | ((with_reducible refine True.intro)) | ((with_reducible refine Stp.go ?_)) | skip))
  refine Lp.intro Nat (fun k => ⟨1, [(0, boxT t)], [(1, .op 0 0), (108, .lst (t.edges.map encE)), (109, .v (.int .i64 (t.edges.map encE).length)), (110, .v (.int .i64 k))]⟩)
    (fun k => k ≤ t.edges.length ∧ ∀ (i : Nat) e, i < k → t.edges[i]? = some e → (edgeOk t.devs.length e ∧ edgeIx t.edges e.name = i) ∧ ∀ (j : Nat) o, j < i → t.edges[j]? = some o → apartE e o) (fun k => t.edges.length - k) 0 ?_ ?_ ?_
  · exact ⟨Nat.zero_le _, fun i y hi => absurd hi (Nat.not_lt_zero _)⟩
  · exact ⟨[(0, 0)], rfl, ⟨rfl, rfl, rfl, rfl, trivial⟩, rfl, trivial⟩
  intro k ⟨hk, hinv⟩
  rcases Nat.lt_or_ge k t.edges.length with hkl | hkl
  · obtain ⟨r, hr⟩ : ∃ r, t.edges[k]? = some r := ⟨_, List.getElem?_eq_getElem hkl⟩
    iterate 40 (all_goals ((conv => whnf); first | (with_reducible refine in_map hkl ?_) | (with_reducible refine ix_map hr ?_) | (with_reducible refine ctEdgeOk t r ?_) | (with_reducible refine ctEdge t _ (by omega) ?_) | ((with_reducible refine sl_full ?ha ?_); (case ha => exact gA)) | ((with_reducible refine Ob.intro ?ha ?_); (case ha => exact gC)) | ((with_reducible refine br_lt ?_)) | ((with_reducible refine br_lf ?_)) | ((with_reducible refine br_pos ?ha ?_); (case ha => exact gB)) | ((with_reducible refine br_neg ?ha ?_); (case ha => exact gB)) | ((with_reducible refine br_t ?ha ?_); (case ha => with_reducible assumption)) | ((with_reducible refine br_f ?ha ?_); (case ha => with_reducible assumption)) | ((with_reducible refine br_dec (fun h => ?_) (fun h => ?_))) | ((with_reducible refine br_not ?_)) | ((with_reducible refine br_b (fun h => ?_) (fun h => ?_))) | ((with_reducible refine wr_i64 rfl ?ha ?hb ?_); (case ha => exact gB); (case hb => exact gB)) | ((with_reducible refine wr_u64 rfl ?ha ?hb ?_); (case ha => exact gB); (case hb => exact gB)) | ((with_reducible refine wr_u32 rfl ?ha ?hb ?_); (case ha => exact gB); (case hb => exact gB)) | ((with_reducible refine And.intro ?_ ?_)) | ((with_reducible refine True.intro)) | ((with_reducible refine Stp.go ?_)) | skip))
    · refine sb_take (by omega) ?_
      have hlen : (t.edges.take k).length = k := by simp; omega
      have hget : ∀ (j : Nat) o, (t.edges.take k)[j]? = some o ↔ j < k ∧ t.edges[j]? = some o := fun j o => take_get
      iterate 9 (all_goals ((conv => whnf); first | ((with_reducible refine sl_full ?ha ?_); (case ha => exact gA)) | ((with_reducible refine Ob.intro ?ha ?_); (case ha => exact gC)) | ((with_reducible refine br_lt ?_)) | ((with_reducible refine br_lf ?_)) | ((with_reducible refine br_pos ?ha ?_); (case ha => exact gB)) | ((with_reducible refine br_neg ?ha ?_); (case ha => exact gB)) | ((with_reducible refine br_t ?ha ?_); (case ha => with_reducible assumption)) | ((with_reducible refine br_f ?ha ?_); (case ha => with_reducible assumption)) | ((with_reducible refine br_dec (fun h => ?_) (fun h => ?_))) | ((with_reducible refine br_not ?_)) | ((with_reducible refine br_b (fun h => ?_) (fun h => ?_))) | ((with_reducible refine wr_i64 rfl ?ha ?hb ?_); (case ha => exact gB); (case hb => exact gB)) | ((with_reducible refine wr_u64 rfl ?ha ?hb ?_); (case ha => exact gB); (case hb => exact gB)) | ((with_reducible refine wr_u32 rfl ?ha ?hb ?_); (case ha => exact gB); (case hb => exact gB)) | ((with_reducible refine And.intro ?_ ?_)) | ((with_reducible refine True.intro)) | ((with_reducible refine Stp.go ?_)) | skip))
      refine Lp.intro Nat (fun j => ⟨2, [(1, .box [.v (.string r.name), .v (.int .i64 r.dev), .v (.string r.zone), .v (.int .u32 r.pf.addr), .v (.int .i64 r.pf.bits), .sb r.pl]), (0, boxT t)],
        [(1, .op 0 0), (8, .op 1 0), (108, .lst (t.edges.map encE)), (109, .v (.int .i64 (t.edges.map encE).length)), (110, .v (.int .i64 k)), (130, .lst ((t.edges.take k).map encE)), (131, .v (.int .i64 ((t.edges.take k).map encE).length)), (132, .v (.int .i64 j))]⟩)
        (fun j => j ≤ (t.edges.take k).length ∧ ∀ (i : Nat) o, i < j → (t.edges.take k)[i]? = some o → apartE r o) (fun j => (t.edges.take k).length - j) 0 ?_ ?_ ?_
      · exact ⟨Nat.zero_le _, fun i y hi => absurd hi (Nat.not_lt_zero _)⟩
      · exact ⟨[(0, 0), (1, 1)], rfl, ⟨rfl, rfl, rfl, rfl, rfl, rfl, rfl, rfl, trivial⟩, rfl, rfl, trivial⟩
      intro j ⟨hj, hinvj⟩
      rcases Nat.lt_or_ge j (t.edges.take k).length with hjl | hjl
      · obtain ⟨o, ho⟩ : ∃ o, (t.edges.take k)[j]? = some o := ⟨_, List.getElem?_eq_getElem hjl⟩
        have ho2 := (hget j o).1 ho
        iterate 40 (all_goals ((conv => whnf); first | (with_reducible refine in_map hjl ?_) | (with_reducible refine ix_map ho ?_) | (with_reducible refine ctOvl r.pf o.pf ?_) | ((with_reducible refine sl_full ?ha ?_); (case ha => exact gA)) | ((with_reducible refine Ob.intro ?ha ?_); (case ha => exact gC)) | ((with_reducible refine br_lt ?_)) | ((with_reducible refine br_lf ?_)) | ((with_reducible refine br_pos ?ha ?_); (case ha => exact gB)) | ((with_reducible refine br_neg ?ha ?_); (case ha => exact gB)) | ((with_reducible refine br_t ?ha ?_); (case ha => with_reducible assumption)) | ((with_reducible refine br_f ?ha ?_); (case ha => with_reducible assumption)) | ((with_reducible refine br_dec (fun h => ?_) (fun h => ?_))) | ((with_reducible refine br_not ?_)) | ((with_reducible refine br_b (fun h => ?_) (fun h => ?_))) | ((with_reducible refine wr_i64 rfl ?ha ?hb ?_); (case ha => exact gB); (case hb => exact gB)) | ((with_reducible refine wr_u64 rfl ?ha ?hb ?_); (case ha => exact gB); (case hb => exact gB)) | ((with_reducible refine wr_u32 rfl ?ha ?hb ?_); (case ha => exact gB); (case hb => exact gB)) | ((with_reducible refine And.intro ?_ ?_)) | ((with_reducible refine True.intro)) | ((with_reducible refine Stp.go ?_)) | skip))
        all_goals first
          | (refine fin_f hK (topB_false fun hn => ?_)
             exact hn.apart k r hr j o ho2.1 ho2.2 ⟨by assumption, by assumption, by assumption⟩)
          | (refine ⟨j + 1, ⟨by omega, all_succ ho ?_ hinvj⟩, by omega, ⟨[(0, 0), (1, 1)], rfl, ⟨rfl, rfl, rfl, rfl, rfl, rfl, rfl, rfl, trivial⟩, rfl, rfl, trivial⟩⟩
             rintro ⟨q1, q2, q3⟩
             simp_all)
      have hap := before_all hjl hinvj
      iterate 20 (all_goals ((conv => whnf); first | ((with_reducible refine sl_full ?ha ?_); (case ha => exact gA)) | ((with_reducible refine Ob.intro ?ha ?_); (case ha => exact gC)) | ((with_reducible refine br_lt ?_)) | ((with_reducible refine br_lf ?_)) | ((with_reducible refine br_pos ?ha ?_); (case ha => exact gB)) | ((with_reducible refine br_neg ?ha ?_); (case ha => exact gB)) | ((with_reducible refine br_t ?ha ?_); (case ha => with_reducible assumption)) | ((with_reducible refine br_f ?ha ?_); (case ha => with_reducible assumption)) | ((with_reducible refine br_dec (fun h => ?_) (fun h => ?_))) | ((with_reducible refine br_not ?_)) | ((with_reducible refine br_b (fun h => ?_) (fun h => ?_))) | ((with_reducible refine wr_i64 rfl ?ha ?hb ?_); (case ha => exact gB); (case hb => exact gB)) | ((with_reducible refine wr_u64 rfl ?ha ?hb ?_); (case ha => exact gB); (case hb => exact gB)) | ((with_reducible refine wr_u32 rfl ?ha ?hb ?_); (case ha => exact gB); (case hb => exact gB)) | ((with_reducible refine And.intro ?_ ?_)) | ((with_reducible refine True.intro)) | ((with_reducible refine Stp.go ?_)) | skip))
      exact ⟨k + 1, ⟨by omega, all_succ hr ⟨⟨edgeB_iff.1 (by assumption), by assumption⟩, fun j o h1 h2 => hap j o ((hget j o).2 ⟨h1, h2⟩)⟩ hinv⟩, by omega, ⟨[(0, 0)], rfl, ⟨rfl, rfl, rfl, rfl, trivial⟩, rfl, trivial⟩⟩
    · exact fin_f hK (topB_false fun hn => h (hn.edge k r hr).2)
    · exact fin_f hK (topB_false fun hn => by rw [edgeB_true (hn.edge k r hr).1] at h; cases h)
  have hedge := before_all hkl hinv
  iterate 20 (all_goals ((conv => whnf); first | ((with_reducible refine sl_full ?ha ?_); (case ha => exact gA)) | ((with_reducible refine Ob.intro ?ha ?_); (case ha => exact gC)) | ((with_reducible refine br_lt ?_)) | ((with_reducible refine br_lf ?_)) | ((with_reducible refine br_pos ?ha ?_); (case ha => exact gB)) | ((with_reducible refine br_neg ?ha ?_); (case ha => exact gB)) | ((with_reducible refine br_t ?ha ?_); (case ha => with_reducible assumption)) | ((with_reducible refine br_f ?ha ?_); (case ha => with_reducible assumption)) | ((with_reducible refine br_dec (fun h => ?_) (fun h => ?_))) | ((with_reducible refine br_not ?_)) | ((with_reducible refine br_b (fun h => ?_) (fun h => ?_))) | ((with_reducible refine wr_i64 rfl ?ha ?hb ?_); (case ha => exact gB); (case hb => exact gB)) | ((with_reducible refine wr_u64 rfl ?ha ?hb ?_); (case ha => exact gB); (case hb => exact gB)) | ((with_reducible refine wr_u32 rfl ?ha ?hb ?_); (case ha => exact gB); (case hb => exact gB)) | ((with_reducible refine And.intro ?_ ?_)) | ((with_reducible refine True.intro)) | ((with_reducible refine Stp.go ?_)) | skip))
  refine Lp.intro Nat (fun k => ⟨1, [(0, boxT t)], [(1, .op 0 0), (154, .lst (t.pools.map encP)), (155, .v (.int .i64 (t.pools.map encP).length)), (156, .v (.int .i64 k))]⟩)
    (fun k => k ≤ t.pools.length ∧ ∀ (i : Nat) p, i < k → t.pools[i]? = some p → p.okP ∧ ∀ (j : Nat) q, j < i → t.pools[j]? = some q → p.meet q = false) (fun k => t.pools.length - k) 0 ?_ ?_ ?_
  · exact ⟨Nat.zero_le _, fun i y hi => absurd hi (Nat.not_lt_zero _)⟩
  · exact ⟨[(0, 0)], rfl, ⟨rfl, rfl, rfl, rfl, trivial⟩, rfl, trivial⟩
  intro k ⟨hk, hinv⟩
  rcases Nat.lt_or_ge k t.pools.length with hkl | hkl
  · obtain ⟨r, hr⟩ : ∃ r, t.pools[k]? = some r := ⟨_, List.getElem?_eq_getElem hkl⟩
    have hlen : (t.pools.take k).length = k := by simp; omega
    have hget : ∀ (j : Nat) o, (t.pools.take k)[j]? = some o ↔ j < k ∧ t.pools[j]? = some o := fun j o => take_get
    iterate 40 (all_goals ((conv => whnf); first | (with_reducible refine in_map hkl ?_) | (with_reducible refine ix_map hr ?_) | (with_reducible refine cpVal r ?_) | (with_reducible refine sb_take (by omega) ?_) | (with_reducible refine canyPf _ r (by omega) ?_) | ((with_reducible refine sl_full ?ha ?_); (case ha => exact gA)) | ((with_reducible refine Ob.intro ?ha ?_); (case ha => exact gC)) | ((with_reducible refine br_lt ?_)) | ((with_reducible refine br_lf ?_)) | ((with_reducible refine br_pos ?ha ?_); (case ha => exact gB)) | ((with_reducible refine br_neg ?ha ?_); (case ha => exact gB)) | ((with_reducible refine br_t ?ha ?_); (case ha => with_reducible assumption)) | ((with_reducible refine br_f ?ha ?_); (case ha => with_reducible assumption)) | ((with_reducible refine br_dec (fun h => ?_) (fun h => ?_))) | ((with_reducible refine br_not ?_)) | ((with_reducible refine br_b (fun h => ?_) (fun h => ?_))) | ((with_reducible refine wr_i64 rfl ?ha ?hb ?_); (case ha => exact gB); (case hb => exact gB)) | ((with_reducible refine wr_u64 rfl ?ha ?hb ?_); (case ha => exact gB); (case hb => exact gB)) | ((with_reducible refine wr_u32 rfl ?ha ?hb ?_); (case ha => exact gB); (case hb => exact gB)) | ((with_reducible refine And.intro ?_ ?_)) | ((with_reducible refine True.intro)) | ((with_reducible refine Stp.go ?_)) | skip))
    · refine fin_f hK (topB_false fun hn => ?_)
      obtain ⟨q, hq1, hq2⟩ := List.any_eq_true.1 h
      obtain ⟨j, hj⟩ := List.mem_iff_getElem?.1 hq1
      have hj2 := (hget j q).1 hj
      rw [(hn.pool k r hr).2 j q hj2.1 hj2.2] at hq2; cases hq2
    · refine ⟨k + 1, ⟨by omega, all_succ hr ⟨by assumption, fun j q h1 h2 => ?_⟩ hinv⟩, by omega, ⟨[(0, 0)], rfl, ⟨rfl, rfl, rfl, rfl, trivial⟩, rfl, trivial⟩⟩
      rw [List.any_eq_false] at h
      have := h q (List.mem_of_getElem? ((hget j q).2 ⟨h1, h2⟩))
      simpa using this
    · exact fin_f hK (topB_false fun hn => h (hn.pool k r hr).1)
  have hpool := before_all hkl hinv
  iterate 20 (all_goals ((conv => whnf); first | ((with_reducible refine sl_full ?ha ?_); (case ha => exact gA)) | ((with_reducible refine Ob.intro ?ha ?_); (case ha => exact gC)) | ((with_reducible refine br_lt ?_)) | ((with_reducible refine br_lf ?_)) | ((with_reducible refine br_pos ?ha ?_); (case ha => exact gB)) | ((with_reducible refine br_neg ?ha ?_); (case ha => exact gB)) | ((with_reducible refine br_t ?ha ?_); (case ha => with_reducible assumption)) | ((with_reducible refine br_f ?ha ?_); (case ha => with_reducible assumption)) | ((with_reducible refine br_dec (fun h => ?_) (fun h => ?_))) | ((with_reducible refine br_not ?_)) | ((with_reducible refine br_b (fun h => ?_) (fun h => ?_))) | ((with_reducible refine wr_i64 rfl ?ha ?hb ?_); (case ha => exact gB); (case hb => exact gB)) | ((with_reducible refine wr_u64 rfl ?ha ?hb ?_); (case ha => exact gB); (case hb => exact gB)) | ((with_reducible refine wr_u32 rfl ?ha ?hb ?_); (case ha => exact gB); (case hb => exact gB)) | ((with_reducible refine And.intro ?_ ?_)) | ((with_reducible refine True.intro)) | ((with_reducible refine Stp.go ?_)) | skip))
  exact fin_t hK (topB_true ⟨d0, d1, l1, e1, p1, t0, t1, hdev, hlink, fun i e he => (hedge i e he).1, fun i e he => (hedge i e he).2, hpool⟩)
end Go.Proofs.YtgcplfplbcpemaaGreat

set_option linter.unusedVariables false
set_option linter.unusedSimpArgs false
set_option maxRecDepth 20000
namespace Go.Proofs.YtgcplfplbcpemaaGreat
open Go Go.Vm

/-- nsgref11.meets -/
theorem cuMeets (p : Pf) (l : List Pf) (hl : l.length < 1000000) {K : AV → List Vm.Obj → Prop} (hK : K (.sb (l.any fun q => p.meet q)) []) : ACall Tryz.prog 60 [encP p, .lst (l.map encP)] [] K := by
  refine ACall.bool (ofuMeets rfl rfl ?_)
  iterate 4 (all_goals ((conv => whnf); first | ((with_reducible refine sl_full ?ha ?_); (case ha => exact gA)) | ((with_reducible refine Ob.intro ?ha ?_); (case ha => exact gC)) | ((with_reducible refine br_lt ?_)) | ((with_reducible refine br_lf ?_)) | ((with_reducible refine br_pos ?ha ?_); (case ha => exact gB)) | ((with_reducible refine br_neg ?ha ?_); (case ha => exact gB)) | ((with_reducible refine br_t ?ha ?_); (case ha => with_reducible assumption)) | ((with_reducible refine br_f ?ha ?_); (case ha => with_reducible assumption)) | ((with_reducible refine br_dec (fun h => ?_) (fun h => ?_))) | ((with_reducible refine br_not ?_)) | ((with_reducible refine br_b (fun h => ?_) (fun h => ?_))) | ((with_reducible refine wr_i64 rfl ?ha ?hb ?_); (case ha => exact gB); (case hb => exact gB)) | ((with_reducible refine wr_u64 rfl ?ha ?hb ?_); (case ha => exact gB); (case hb => exact gB)) | ((with_reducible refine wr_u32 rfl ?ha ?hb ?_); (case ha => exact gB); (case hb => exact gB)) | ((with_reducible refine And.intro ?_ ?_)) | ((with_reducible refine True.intro)) | ((with_reducible refine Stp.go ?_)) | skip))
  refine Lp.intro Nat (fun k => ⟨1, [(0, .box [.v (.int .u32 p.addr), .v (.int .i64 p.bits)])], [(1, .lst (l.map encP)), (2, .op 0 0), (5, .v (.int .i64 k))]⟩) (fun k => k ≤ l.length ∧ ∀ (i : Nat) q, i < k → l[i]? = some q → p.meet q = false) (fun k => l.length - k) 0 ?_ ?_ ?_
  · exact ⟨Nat.zero_le _, fun i y hi => absurd hi (Nat.not_lt_zero _)⟩
  · exact ⟨[(0, 0)], rfl, ⟨rfl, rfl, rfl, trivial⟩, rfl, trivial⟩
  intro k ⟨hk, hinv⟩
  rcases Nat.lt_or_ge k l.length with hkl | hkl
  · obtain ⟨r, hr⟩ : ∃ r, l[k]? = some r := ⟨_, List.getElem?_eq_getElem hkl⟩
    iterate 20 (all_goals ((conv => whnf); first | (with_reducible refine in_map hkl ?_) | (with_reducible refine ix_map hr ?_) | (with_reducible refine crMeet p r ?_) | ((with_reducible refine sl_full ?ha ?_); (case ha => exact gA)) | ((with_reducible refine Ob.intro ?ha ?_); (case ha => exact gC)) | ((with_reducible refine br_lt ?_)) | ((with_reducible refine br_lf ?_)) | ((with_reducible refine br_pos ?ha ?_); (case ha => exact gB)) | ((with_reducible refine br_neg ?ha ?_); (case ha => exact gB)) | ((with_reducible refine br_t ?ha ?_); (case ha => with_reducible assumption)) | ((with_reducible refine br_f ?ha ?_); (case ha => with_reducible assumption)) | ((with_reducible refine br_dec (fun h => ?_) (fun h => ?_))) | ((with_reducible refine br_not ?_)) | ((with_reducible refine br_b (fun h => ?_) (fun h => ?_))) | ((with_reducible refine wr_i64 rfl ?ha ?hb ?_); (case ha => exact gB); (case hb => exact gB)) | ((with_reducible refine wr_u64 rfl ?ha ?hb ?_); (case ha => exact gB); (case hb => exact gB)) | ((with_reducible refine wr_u32 rfl ?ha ?hb ?_); (case ha => exact gB); (case hb => exact gB)) | ((with_reducible refine And.intro ?_ ?_)) | ((with_reducible refine True.intro)) | ((with_reducible refine Stp.go ?_)) | skip))
    · exact fin_t hK (List.any_eq_true.2 ⟨r, List.mem_of_getElem? hr, h⟩)
    · exact ⟨k + 1, ⟨by omega, all_succ hr h hinv⟩, by omega, ⟨[(0, 0)], rfl, ⟨rfl, rfl, rfl, trivial⟩, rfl, trivial⟩⟩
  · have hall := before_all hkl hinv
    iterate 12 (all_goals ((conv => whnf); first | ((with_reducible refine sl_full ?ha ?_); (case ha => exact gA)) | ((with_reducible refine Ob.intro ?ha ?_); (case ha => exact gC)) | ((with_reducible refine br_lt ?_)) | ((with_reducible refine br_lf ?_)) | ((with_reducible refine br_pos ?ha ?_); (case ha => exact gB)) | ((with_reducible refine br_neg ?ha ?_); (case ha => exact gB)) | ((with_reducible refine br_t ?ha ?_); (case ha => with_reducible assumption)) | ((with_reducible refine br_f ?ha ?_); (case ha => with_reducible assumption)) | ((with_reducible refine br_dec (fun h => ?_) (fun h => ?_))) | ((with_reducible refine br_not ?_)) | ((with_reducible refine br_b (fun h => ?_) (fun h => ?_))) | ((with_reducible refine wr_i64 rfl ?ha ?hb ?_); (case ha => exact gB); (case hb => exact gB)) | ((with_reducible refine wr_u64 rfl ?ha ?hb ?_); (case ha => exact gB); (case hb => exact gB)) | ((with_reducible refine wr_u32 rfl ?ha ?hb ?_); (case ha => exact gB); (case hb => exact gB)) | ((with_reducible refine And.intro ?_ ?_)) | ((with_reducible refine True.intro)) | ((with_reducible refine Stp.go ?_)) | skip))
    refine fin_f hK (List.any_eq_false.2 fun q hq => ?_)
    obtain ⟨j, hj⟩ := List.mem_iff_getElem?.1 hq
    rw [hall j q hj]; simp
def fixed (l : List Ed) : List Pf := (l.filter fun e => !e.pl).map (·.pf)
theorem fixed_succ {l : List Ed} {k : Nat} {e : Ed} (h : l[k]? = some e) : fixed (l.take (k + 1)) = fixed (l.take k) ++ (if e.pl then [] else [e.pf]) := by
  unfold fixed
  rw [List.take_add_one, h, List.filter_append, List.map_append]
  cases he : e.pl <;> simp [he]
theorem fixed_len (l : List Ed) : (fixed l).length ≤ l.length := by
  unfold fixed
  rw [List.length_map]
  exact List.length_filter_le _ _
/-- nsgref11.Fixed -/
theorem cuFixed (t : Tp) (hl : t.edges.length < 1000000) {K : AV → List Vm.Obj → Prop} (hK : K (.lst ((fixed t.edges).map encP)) []) : ACall Tryz.prog 59 [encT t] [] K := by
  refine ofuFixed rfl rfl ?_
  iterate 8 (all_goals ((conv => whnf); first | ((with_reducible refine sl_full ?ha ?_); (case ha => exact gA)) | ((with_reducible refine Ob.intro ?ha ?_); (case ha => exact gC)) | ((with_reducible refine br_lt ?_)) | ((with_reducible refine br_lf ?_)) | ((with_reducible refine br_pos ?ha ?_); (case ha => exact gB)) | ((with_reducible refine br_neg ?ha ?_); (case ha => exact gB)) | ((with_reducible refine br_t ?ha ?_); (case ha => with_reducible assumption)) | ((with_reducible refine br_f ?ha ?_); (case ha => with_reducible assumption)) | ((with_reducible refine br_dec (fun h => ?_) (fun h => ?_))) | ((with_reducible refine br_not ?_)) | ((with_reducible refine br_b (fun h => ?_) (fun h => ?_))) | ((with_reducible refine wr_i64 rfl ?ha ?hb ?_); (case ha => exact gB); (case hb => exact gB)) | ((with_reducible refine wr_u64 rfl ?ha ?hb ?_); (case ha => exact gB); (case hb => exact gB)) | ((with_reducible refine wr_u32 rfl ?ha ?hb ?_); (case ha => exact gB); (case hb => exact gB)) | ((with_reducible refine And.intro ?_ ?_)) | ((with_reducible refine True.intro)) | ((with_reducible refine Stp.go ?_)) | skip))
  refine Lp.intro Nat (fun k => ⟨2, [(1, .arr 2 ((fixed (t.edges.take k)).map encP)), (0, boxT t)], [(1, .op 0 0), (3, .os 1 2 0 (fixed (t.edges.take k)).length), (4, .v (.int .i64 k))]⟩) (fun k => k ≤ t.edges.length) (fun k => t.edges.length - k) 0 ?_ ?_ ?_
  · exact Nat.zero_le _
  · exact ⟨[(0, 0), (1, 1)], rfl, ⟨rfl, rfl, rfl, trivial⟩, rfl, rfl, trivial⟩
  intro k hk
  rcases Nat.lt_or_ge k t.edges.length with hkl | hkl
  · obtain ⟨r, hr⟩ : ∃ r, t.edges[k]? = some r := ⟨_, List.getElem?_eq_getElem hkl⟩
    have hs := fixed_succ hr
    have hf := fixed_len (t.edges.take k)
    simp only [List.length_take] at hf
    iterate 30 (all_goals ((conv => whnf); first | (with_reducible refine in_map hkl ?_) | (with_reducible refine ix_map hr ?_) | ((with_reducible refine sl_full ?ha ?_); (case ha => exact gA)) | ((with_reducible refine Ob.intro ?ha ?_); (case ha => exact gC)) | ((with_reducible refine br_lt ?_)) | ((with_reducible refine br_lf ?_)) | ((with_reducible refine br_pos ?ha ?_); (case ha => exact gB)) | ((with_reducible refine br_neg ?ha ?_); (case ha => exact gB)) | ((with_reducible refine br_t ?ha ?_); (case ha => with_reducible assumption)) | ((with_reducible refine br_f ?ha ?_); (case ha => with_reducible assumption)) | ((with_reducible refine br_dec (fun h => ?_) (fun h => ?_))) | ((with_reducible refine br_not ?_)) | ((with_reducible refine br_b (fun h => ?_) (fun h => ?_))) | ((with_reducible refine wr_i64 rfl ?ha ?hb ?_); (case ha => exact gB); (case hb => exact gB)) | ((with_reducible refine wr_u64 rfl ?ha ?hb ?_); (case ha => exact gB); (case hb => exact gB)) | ((with_reducible refine wr_u32 rfl ?ha ?hb ?_); (case ha => exact gB); (case hb => exact gB)) | ((with_reducible refine And.intro ?_ ?_)) | ((with_reducible refine True.intro)) | ((with_reducible refine Stp.go ?_)) | skip))
    · refine ⟨k + 1, by omega, by omega, ?_⟩
      rw [hs, h, if_pos rfl, List.append_nil]
      exact ⟨[(0, 0), (1, 1)], rfl, ⟨rfl, rfl, rfl, trivial⟩, rfl, rfl, trivial⟩
    · refine ⟨k + 1, by omega, by omega, ?_⟩
      rw [hs, h, if_neg (by simp), List.map_append, List.length_append]
      exact ⟨[(0, 0), (1, 3)], rfl, ⟨rfl, rfl, rfl, trivial⟩, rfl, rfl, trivial⟩
  · iterate 12 (all_goals ((conv => whnf); first | ((with_reducible refine sl_full ?ha ?_); (case ha => exact gA)) | ((with_reducible refine Ob.intro ?ha ?_); (case ha => exact gC)) | ((with_reducible refine br_lt ?_)) | ((with_reducible refine br_lf ?_)) | ((with_reducible refine br_pos ?ha ?_); (case ha => exact gB)) | ((with_reducible refine br_neg ?ha ?_); (case ha => exact gB)) | ((with_reducible refine br_t ?ha ?_); (case ha => with_reducible assumption)) | ((with_reducible refine br_f ?ha ?_); (case ha => with_reducible assumption)) | ((with_reducible refine br_dec (fun h => ?_) (fun h => ?_))) | ((with_reducible refine br_not ?_)) | ((with_reducible refine br_b (fun h => ?_) (fun h => ?_))) | ((with_reducible refine wr_i64 rfl ?ha ?hb ?_); (case ha => exact gB); (case hb => exact gB)) | ((with_reducible refine wr_u64 rfl ?ha ?hb ?_); (case ha => exact gB); (case hb => exact gB)) | ((with_reducible refine wr_u32 rfl ?ha ?hb ?_); (case ha => exact gB); (case hb => exact gB)) | ((with_reducible refine And.intro ?_ ?_)) | ((with_reducible refine True.intro)) | ((with_reducible refine Stp.go ?_)) | skip))
    rw [List.take_of_length_le hkl]
    exact hK
/-- nsgref11.validDevices -/
theorem cuDevs (l : List Dv) {K : AV → List Vm.Obj → Prop} (hK : ∀ b, (b = true ↔ (1 ≤ l.length ∧ l.length ≤ 12) ∧ ∀ (i : Nat) d, l[i]? = some d → devOk d ∧ devIx l d.name = i) → K (.sb b) []) : ACall Tryz.prog 56 [.lst (l.map encD)] [] K := by
  refine ACall.bool (ofuDevs rfl rfl ?_)
  iterate 16 (all_goals ((conv => whnf); first | ((with_reducible refine sl_full ?ha ?_); (case ha => exact gA)) | ((with_reducible refine Ob.intro ?ha ?_); (case ha => exact gC)) | ((with_reducible refine br_lt ?_)) | ((with_reducible refine br_lf ?_)) | ((with_reducible refine br_pos ?ha ?_); (case ha => exact gB)) | ((with_reducible refine br_neg ?ha ?_); (case ha => exact gB)) | ((with_reducible refine br_t ?ha ?_); (case ha => with_reducible assumption)) | ((with_reducible refine br_f ?ha ?_); (case ha => with_reducible assumption)) | ((with_reducible refine br_dec (fun h => ?_) (fun h => ?_))) | ((with_reducible refine br_not ?_)) | ((with_reducible refine br_b (fun h => ?_) (fun h => ?_))) | ((with_reducible refine wr_i64 rfl ?ha ?hb ?_); (case ha => exact gB); (case hb => exact gB)) | ((with_reducible refine wr_u64 rfl ?ha ?hb ?_); (case ha => exact gB); (case hb => exact gB)) | ((with_reducible refine wr_u32 rfl ?ha ?hb ?_); (case ha => exact gB); (case hb => exact gB)) | ((with_reducible refine And.intro ?_ ?_)) | ((with_reducible refine True.intro)) | ((with_reducible refine Stp.go ?_)) | skip))
  all_goals first
    | (refine fin_f (hK false (iff_of_false (by simp) fun hn => ?_)) rfl
       have := hn.1
       simp only [List.length_map] at *
       omega)
    | skip
  obtain ⟨d0, d1⟩ : 1 ≤ l.length ∧ l.length ≤ 12 := by
    simp only [List.length_map] at *
    omega
  refine Lp.intro Nat (fun k => ⟨0, [], [(0, .lst (l.map encD)), (3, .v (.int .i64 k))]⟩)
    (fun k => k ≤ l.length ∧ ∀ (i : Nat) d, i < k → l[i]? = some d → devOk d ∧ devIx l d.name = i) (fun k => l.length - k) 0 ?_ ?_ ?_
  · exact ⟨Nat.zero_le _, fun i y hi => absurd hi (Nat.not_lt_zero _)⟩
  · exact ⟨[], rfl, ⟨rfl, rfl, trivial⟩, trivial⟩
  intro k ⟨hk, hinv⟩
  rcases Nat.lt_or_ge k l.length with hkl | hkl
  · obtain ⟨r, hr⟩ : ∃ r, l[k]? = some r := ⟨_, List.getElem?_eq_getElem hkl⟩
    have hdv : ∀ (n : ByteArray) (K : AV → List Vm.Obj → Prop), K (.v (.int .i64 (devIx l n))) [] → ACall Tryz.prog 81 [.agg [.lst (l.map encD), .lst [], .lst [], .lst [], .v (.int .i64 0)], .v (.string n)] [] K :=
      fun n K h => cuDev ⟨l, [], [], [], 0⟩ n (by show l.length < 1000000; omega) h
    iterate 90 (all_goals ((conv => whnf); first | (with_reducible refine in_map hkl ?_) | (with_reducible refine ix_map hr ?_) | (with_reducible refine crName _ ?_) | (with_reducible refine hdv _ _ ?_) | ((with_reducible refine sl_full ?ha ?_); (case ha => exact gA)) | ((with_reducible refine Ob.intro ?ha ?_); (case ha => exact gC)) | ((with_reducible refine br_lt ?_)) | ((with_reducible refine br_lf ?_)) | ((with_reducible refine br_pos ?ha ?_); (case ha => exact gB)) | ((with_reducible refine br_neg ?ha ?_); (case ha => exact gB)) | ((with_reducible refine br_t ?ha ?_); (case ha => with_reducible assumption)) | ((with_reducible refine br_f ?ha ?_); (case ha => with_reducible assumption)) | ((with_reducible refine br_dec (fun h => ?_) (fun h => ?_))) | ((with_reducible refine br_not ?_)) | ((with_reducible refine br_b (fun h => ?_) (fun h => ?_))) | ((with_reducible refine wr_i64 rfl ?ha ?hb ?_); (case ha => exact gB); (case hb => exact gB)) | ((with_reducible refine wr_u64 rfl ?ha ?hb ?_); (case ha => exact gB); (case hb => exact gB)) | ((with_reducible refine wr_u32 rfl ?ha ?hb ?_); (case ha => exact gB); (case hb => exact gB)) | ((with_reducible refine And.intro ?_ ?_)) | ((with_reducible refine True.intro)) | ((with_reducible refine Stp.go ?_)) | skip))
    all_goals first
      | (refine fin_f (hK false (iff_of_false (by simp) fun hn => ?_)) rfl
         obtain ⟨⟨n1, n2, n3, n4⟩, n5⟩ := hn.2 k r hr
         first | omega | exact nameB_not (by assumption) n1 | exact n4.elim (fun n6 => by simp_all [sEq]) (fun n6 => nameB_not (by assumption) n6) | (exact absurd n5 (by assumption)))
      | (refine ⟨k + 1, ⟨by omega, all_succ hr ⟨⟨nameB_iff.1 (by assumption), by omega, by omega, ?_⟩, by assumption⟩ hinv⟩, by omega, ⟨[], rfl, ⟨rfl, rfl, trivial⟩, trivial⟩⟩
         first | exact .inr (nameB_iff.1 (by assumption)) | (left; simp_all [sEq]; done))
  · have hall := before_all hkl hinv
    iterate 12 (all_goals ((conv => whnf); first | ((with_reducible refine sl_full ?ha ?_); (case ha => exact gA)) | ((with_reducible refine Ob.intro ?ha ?_); (case ha => exact gC)) | ((with_reducible refine br_lt ?_)) | ((with_reducible refine br_lf ?_)) | ((with_reducible refine br_pos ?ha ?_); (case ha => exact gB)) | ((with_reducible refine br_neg ?ha ?_); (case ha => exact gB)) | ((with_reducible refine br_t ?ha ?_); (case ha => with_reducible assumption)) | ((with_reducible refine br_f ?ha ?_); (case ha => with_reducible assumption)) | ((with_reducible refine br_dec (fun h => ?_) (fun h => ?_))) | ((with_reducible refine br_not ?_)) | ((with_reducible refine br_b (fun h => ?_) (fun h => ?_))) | ((with_reducible refine wr_i64 rfl ?ha ?hb ?_); (case ha => exact gB); (case hb => exact gB)) | ((with_reducible refine wr_u64 rfl ?ha ?hb ?_); (case ha => exact gB); (case hb => exact gB)) | ((with_reducible refine wr_u32 rfl ?ha ?hb ?_); (case ha => exact gB); (case hb => exact gB)) | ((with_reducible refine And.intro ?_ ?_)) | ((with_reducible refine True.intro)) | ((with_reducible refine Stp.go ?_)) | skip))
    exact fin_t (hK true (iff_of_true rfl ⟨⟨d0, d1⟩, hall⟩)) rfl
theorem pw_iff {α : Type} {R : α → α → Prop} {l : List α} : l.Pairwise R ↔ ∀ (i : Nat) x, l[i]? = some x → ∀ (j : Nat) y, j < i → l[j]? = some y → R y x := by
  rw [List.pairwise_iff_getElem]
  constructor
  · intro h i x hx j y hj hy
    obtain ⟨h1, rfl⟩ := List.getElem?_eq_some_iff.1 hx
    obtain ⟨h2, rfl⟩ := List.getElem?_eq_some_iff.1 hy
    exact h j i h2 h1 hj
  · intro h i j hi hj hij
    exact h j _ (List.getElem?_eq_getElem hj) i _ hij (List.getElem?_eq_getElem hi)
theorem fixed_apart {l : List Ed} : (∀ (i : Nat) p, (fixed l)[i]? = some p → ∀ (j : Nat) q, j < i → (fixed l)[j]? = some q → p.meet q = false) ↔ ∀ (i : Nat) e, l[i]? = some e → ∀ (j : Nat) o, j < i → l[j]? = some o → apartE e o := by
  rw [← pw_iff (R := fun q p : Pf => p.meet q = false), ← pw_iff (R := fun o e : Ed => apartE e o), fixed, List.pairwise_map, List.pairwise_filter]
  constructor
  · refine List.Pairwise.imp fun {o e} h => ?_
    rintro ⟨h1, h2, h3⟩
    rw [h (by simp [h2]) (by simp [h1])] at h3; cases h3
  · refine List.Pairwise.imp fun {o e} h => ?_
    intro h1 h2
    cases hm : e.pf.meet o.pf with
    | false => rfl
    | true => exact absurd ⟨by simpa using h2, by simpa using h1, hm⟩ h
/-- nsgref11.Valid -/
theorem cuVal (t : Tp) {K : AV → List Vm.Obj → Prop} (hK : K (.sb (topB t)) []) : ACall Tryz.prog 36 [encT t] [] K := by
  refine ACall.bool (ofuVal rfl rfl ?_)
  iterate 6 (all_goals ((conv => whnf); first | ((with_reducible refine sl_full ?ha ?_); (case ha => exact gA)) | ((with_reducible refine Ob.intro ?ha ?_); (case ha => exact gC)) | ((with_reducible refine br_lt ?_)) | ((with_reducible refine br_lf ?_)) | ((with_reducible refine br_pos ?ha ?_); (case ha => exact gB)) | ((with_reducible refine br_neg ?ha ?_); (case ha => exact gB)) | ((with_reducible refine br_t ?ha ?_); (case ha => with_reducible assumption)) | ((with_reducible refine br_f ?ha ?_); (case ha => with_reducible assumption)) | ((with_reducible refine br_dec (fun h => ?_) (fun h => ?_))) | ((with_reducible refine br_not ?_)) | ((with_reducible refine br_b (fun h => ?_) (fun h => ?_))) | ((with_reducible refine wr_i64 rfl ?ha ?hb ?_); (case ha => exact gB); (case hb => exact gB)) | ((with_reducible refine wr_u64 rfl ?ha ?hb ?_); (case ha => exact gB); (case hb => exact gB)) | ((with_reducible refine wr_u32 rfl ?ha ?hb ?_); (case ha => exact gB); (case hb => exact gB)) | ((with_reducible refine And.intro ?_ ?_)) | ((with_reducible refine True.intro)) | ((with_reducible refine Stp.go ?_)) | skip))
  refine cuDevs t.devs fun db hdb => ?_
  iterate 50 (all_goals ((conv => whnf); first | ((with_reducible refine sl_full ?ha ?_); (case ha => exact gA)) | ((with_reducible refine Ob.intro ?ha ?_); (case ha => exact gC)) | ((with_reducible refine br_lt ?_)) | ((with_reducible refine br_lf ?_)) | ((with_reducible refine br_pos ?ha ?_); (case ha => exact gB)) | ((with_reducible refine br_neg ?ha ?_); (case ha => exact gB)) | ((with_reducible refine br_t ?ha ?_); (case ha => with_reducible assumption)) | ((with_reducible refine br_f ?ha ?_); (case ha => with_reducible assumption)) | ((with_reducible refine br_dec (fun h => ?_) (fun h => ?_))) | ((with_reducible refine br_not ?_)) | ((with_reducible refine br_b (fun h => ?_) (fun h => ?_))) | ((with_reducible refine wr_i64 rfl ?ha ?hb ?_); (case ha => exact gB); (case hb => exact gB)) | ((with_reducible refine wr_u64 rfl ?ha ?hb ?_); (case ha => exact gB); (case hb => exact gB)) | ((with_reducible refine wr_u32 rfl ?ha ?hb ?_); (case ha => exact gB); (case hb => exact gB)) | ((with_reducible refine And.intro ?_ ?_)) | ((with_reducible refine True.intro)) | ((with_reducible refine Stp.go ?_)) | skip))
  all_goals first
    | (exact fin_f hK (topB_false fun hn => by
        have h0 := hdb.2 ⟨⟨hn.d0, hn.d1⟩, hn.dev⟩
        have := hn.l1; have := hn.e1; have := hn.p1; have := hn.t0; have := hn.t1
        (try simp only [List.length_map] at *)
        first | omega | (rw [h0] at h; cases h)))
    | skip
  obtain ⟨l1, e1, p1, t0, t1⟩ : t.links.length ≤ 24 ∧ t.edges.length ≤ 12 ∧ t.pools.length ≤ 8 ∧ 0 ≤ t.tol ∧ t.tol ≤ 2 := by
    simp only [List.length_map] at *
    omega
  have hdb' := hdb.1 (by assumption)
  refine Lp.intro Nat (fun k => ⟨1, [(0, boxT t)], [(1, .op 0 0), (3, .v (.int .i64 k))]⟩)
    (fun k => k ≤ t.links.length ∧ ∀ (i : Nat) d, i < k → t.links[i]? = some d → linkOk t.devs.length d) (fun k => t.links.length - k) 0 ?_ ?_ ?_
  · exact ⟨Nat.zero_le _, fun i y hi => absurd hi (Nat.not_lt_zero _)⟩
  · exact ⟨[(0, 0)], rfl, ⟨rfl, rfl, trivial⟩, rfl, trivial⟩
  intro k ⟨hk, hinv⟩
  rcases Nat.lt_or_ge k t.links.length with hkl | hkl
  · obtain ⟨r, hr⟩ : ∃ r, t.links[k]? = some r := ⟨_, List.getElem?_eq_getElem hkl⟩
    iterate 50 (all_goals ((conv => whnf); first | (with_reducible refine in_map hkl ?_) | (with_reducible refine ix_map hr ?_) | ((with_reducible refine sl_full ?ha ?_); (case ha => exact gA)) | ((with_reducible refine Ob.intro ?ha ?_); (case ha => exact gC)) | ((with_reducible refine br_lt ?_)) | ((with_reducible refine br_lf ?_)) | ((with_reducible refine br_pos ?ha ?_); (case ha => exact gB)) | ((with_reducible refine br_neg ?ha ?_); (case ha => exact gB)) | ((with_reducible refine br_t ?ha ?_); (case ha => with_reducible assumption)) | ((with_reducible refine br_f ?ha ?_); (case ha => with_reducible assumption)) | ((with_reducible refine br_dec (fun h => ?_) (fun h => ?_))) | ((with_reducible refine br_not ?_)) | ((with_reducible refine br_b (fun h => ?_) (fun h => ?_))) | ((with_reducible refine wr_i64 rfl ?ha ?hb ?_); (case ha => exact gB); (case hb => exact gB)) | ((with_reducible refine wr_u64 rfl ?ha ?hb ?_); (case ha => exact gB); (case hb => exact gB)) | ((with_reducible refine wr_u32 rfl ?ha ?hb ?_); (case ha => exact gB); (case hb => exact gB)) | ((with_reducible refine And.intro ?_ ?_)) | ((with_reducible refine True.intro)) | ((with_reducible refine Stp.go ?_)) | skip))
    all_goals first
      | (refine fin_f hK (topB_false fun hn => ?_)
         obtain ⟨n1, n2, n3, n4, n5⟩ := hn.link k r hr
         simp only [List.length_map] at *
         omega)
      | (refine ⟨k + 1, ⟨by omega, all_succ hr ?_ hinv⟩, by omega, ⟨[(0, 0)], rfl, ⟨rfl, rfl, trivial⟩, rfl, trivial⟩⟩
         unfold linkOk
         simp only [List.length_map] at *
         omega)
  have hlink := before_all hkl hinv
  iterate 20 (all_goals ((conv => whnf); first | ((with_reducible refine sl_full ?ha ?_); (case ha => exact gA)) | ((with_reducible refine Ob.intro ?ha ?_); (case ha => exact gC)) | ((with_reducible refine br_lt ?_)) | ((with_reducible refine br_lf ?_)) | ((with_reducible refine br_pos ?ha ?_); (case ha => exact gB)) | ((with_reducible refine br_neg ?ha ?_); (case ha => exact gB)) | ((with_reducible refine br_t ?ha ?_); (case ha => with_reducible assumption)) | ((with_reducible refine br_f ?ha ?_); (case ha => with_reducible assumption)) | ((with_reducible refine br_dec (fun h => ?_) (fun h => ?_))) | ((with_reducible refine br_not ?_)) | ((with_reducible refine br_b (fun h => ?_) (fun h => ?_))) | ((with_reducible refine wr_i64 rfl ?ha ?hb ?_); (case ha => exact gB); (case hb => exact gB)) | ((with_reducible refine wr_u64 rfl ?ha ?hb ?_); (case ha => exact gB); (case hb => exact gB)) | ((with_reducible refine wr_u32 rfl ?ha ?hb ?_); (case ha => exact gB); (case hb => exact gB)) | ((with_reducible refine And.intro ?_ ?_)) | ((with_reducible refine True.intro)) | ((with_reducible refine Stp.go ?_)) | skip))
  refine Lp.intro Nat (fun k => ⟨1, [(0, boxT t)], [(1, .op 0 0), (5, .v (.int .i64 k))]⟩)
    (fun k => k ≤ t.edges.length ∧ ∀ (i : Nat) e, i < k → t.edges[i]? = some e → edgeOk t.devs.length e ∧ edgeIx t.edges e.name = i) (fun k => t.edges.length - k) 0 ?_ ?_ ?_
  · exact ⟨Nat.zero_le _, fun i y hi => absurd hi (Nat.not_lt_zero _)⟩
  · exact ⟨[(0, 0)], rfl, ⟨rfl, rfl, trivial⟩, rfl, trivial⟩
  intro k ⟨hk, hinv⟩
  rcases Nat.lt_or_ge k t.edges.length with hkl | hkl
  · obtain ⟨r, hr⟩ : ∃ r, t.edges[k]? = some r := ⟨_, List.getElem?_eq_getElem hkl⟩
    have hed : ∀ (K : AV → List Vm.Obj → Prop), K (.sb (edgeB t.devs.length r)) [] → ACall Tryz.prog 57 [encE r, .v (.int .i64 (t.devs.map encD).length)] [] K := fun K h => cuEdgeOk r _ (by rw [List.length_map]; exact h)
    iterate 40 (all_goals ((conv => whnf); first | (with_reducible refine in_map hkl ?_) | (with_reducible refine ix_map hr ?_) | (with_reducible refine hed _ ?_) | (with_reducible refine cuEdge t _ (by omega) ?_) | ((with_reducible refine sl_full ?ha ?_); (case ha => exact gA)) | ((with_reducible refine Ob.intro ?ha ?_); (case ha => exact gC)) | ((with_reducible refine br_lt ?_)) | ((with_reducible refine br_lf ?_)) | ((with_reducible refine br_pos ?ha ?_); (case ha => exact gB)) | ((with_reducible refine br_neg ?ha ?_); (case ha => exact gB)) | ((with_reducible refine br_t ?ha ?_); (case ha => with_reducible assumption)) | ((with_reducible refine br_f ?ha ?_); (case ha => with_reducible assumption)) | ((with_reducible refine br_dec (fun h => ?_) (fun h => ?_))) | ((with_reducible refine br_not ?_)) | ((with_reducible refine br_b (fun h => ?_) (fun h => ?_))) | ((with_reducible refine wr_i64 rfl ?ha ?hb ?_); (case ha => exact gB); (case hb => exact gB)) | ((with_reducible refine wr_u64 rfl ?ha ?hb ?_); (case ha => exact gB); (case hb => exact gB)) | ((with_reducible refine wr_u32 rfl ?ha ?hb ?_); (case ha => exact gB); (case hb => exact gB)) | ((with_reducible refine And.intro ?_ ?_)) | ((with_reducible refine True.intro)) | ((with_reducible refine Stp.go ?_)) | skip))
    · exact ⟨k + 1, ⟨by omega, all_succ hr ⟨edgeB_iff.1 (by assumption), h⟩ hinv⟩, by omega, ⟨[(0, 0)], rfl, ⟨rfl, rfl, trivial⟩, rfl, trivial⟩⟩
    · exact fin_f hK (topB_false fun hn => h (hn.edge k r hr).2)
    · exact fin_f hK (topB_false fun hn => by rw [edgeB_true (hn.edge k r hr).1] at h; cases h)
  have hedge := before_all hkl hinv
  have hfl := fixed_len t.edges
  iterate 20 (all_goals ((conv => whnf); first | (with_reducible refine cuFixed t (by omega) ?_) | ((with_reducible refine sl_full ?ha ?_); (case ha => exact gA)) | ((with_reducible refine Ob.intro ?ha ?_); (case ha => exact gC)) | ((with_reducible refine br_lt ?_)) | ((with_reducible refine br_lf ?_)) | ((with_reducible refine br_pos ?ha ?_); (case ha => exact gB)) | ((with_reducible refine br_neg ?ha ?_); (case ha => exact gB)) | ((with_reducible refine br_t ?ha ?_); (case ha => with_reducible assumption)) | ((with_reducible refine br_f ?ha ?_); (case ha => with_reducible assumption)) | ((with_reducible refine br_dec (fun h => ?_) (fun h => ?_))) | ((with_reducible refine br_not ?_)) | ((with_reducible refine br_b (fun h => ?_) (fun h => ?_))) | ((with_reducible refine wr_i64 rfl ?ha ?hb ?_); (case ha => exact gB); (case hb => exact gB)) | ((with_reducible refine wr_u64 rfl ?ha ?hb ?_); (case ha => exact gB); (case hb => exact gB)) | ((with_reducible refine wr_u32 rfl ?ha ?hb ?_); (case ha => exact gB); (case hb => exact gB)) | ((with_reducible refine And.intro ?_ ?_)) | ((with_reducible refine True.intro)) | ((with_reducible refine Stp.go ?_)) | skip))
  refine Lp.intro Nat (fun k => ⟨1, [(0, boxT t)], [(1, .op 0 0), (6, .lst ((fixed t.edges).map encP)), (7, .v (.int .i64 k))]⟩)
    (fun k => k ≤ (fixed t.edges).length ∧ ∀ (i : Nat) p, i < k → (fixed t.edges)[i]? = some p → ∀ (j : Nat) q, j < i → (fixed t.edges)[j]? = some q → p.meet q = false) (fun k => (fixed t.edges).length - k) 0 ?_ ?_ ?_
  · exact ⟨Nat.zero_le _, fun i y hi => absurd hi (Nat.not_lt_zero _)⟩
  · exact ⟨[(0, 0)], rfl, ⟨rfl, rfl, rfl, trivial⟩, rfl, trivial⟩
  intro k ⟨hk, hinv⟩
  rcases Nat.lt_or_ge k (fixed t.edges).length with hkl | hkl
  · obtain ⟨r, hr⟩ : ∃ r, (fixed t.edges)[k]? = some r := ⟨_, List.getElem?_eq_getElem hkl⟩
    have hlen : ((fixed t.edges).take k).length = k := by simp; omega
    iterate 40 (all_goals ((conv => whnf); first | (with_reducible refine in_map hkl ?_) | (with_reducible refine ix_map hr ?_) | (with_reducible refine sb_take (by omega) ?_) | (with_reducible refine cuMeets r _ (by omega) ?_) | ((with_reducible refine sl_full ?ha ?_); (case ha => exact gA)) | ((with_reducible refine Ob.intro ?ha ?_); (case ha => exact gC)) | ((with_reducible refine br_lt ?_)) | ((with_reducible refine br_lf ?_)) | ((with_reducible refine br_pos ?ha ?_); (case ha => exact gB)) | ((with_reducible refine br_neg ?ha ?_); (case ha => exact gB)) | ((with_reducible refine br_t ?ha ?_); (case ha => with_reducible assumption)) | ((with_reducible refine br_f ?ha ?_); (case ha => with_reducible assumption)) | ((with_reducible refine br_dec (fun h => ?_) (fun h => ?_))) | ((with_reducible refine br_not ?_)) | ((with_reducible refine br_b (fun h => ?_) (fun h => ?_))) | ((with_reducible refine wr_i64 rfl ?ha ?hb ?_); (case ha => exact gB); (case hb => exact gB)) | ((with_reducible refine wr_u64 rfl ?ha ?hb ?_); (case ha => exact gB); (case hb => exact gB)) | ((with_reducible refine wr_u32 rfl ?ha ?hb ?_); (case ha => exact gB); (case hb => exact gB)) | ((with_reducible refine And.intro ?_ ?_)) | ((with_reducible refine True.intro)) | ((with_reducible refine Stp.go ?_)) | skip))
    · refine fin_f hK (topB_false fun hn => ?_)
      obtain ⟨q, hq1, hq2⟩ := List.any_eq_true.1 h
      obtain ⟨j, hj⟩ := List.mem_iff_getElem?.1 hq1
      have hj2 := take_get.1 hj
      rw [fixed_apart.2 hn.apart k r hr j q hj2.1 hj2.2] at hq2; cases hq2
    · refine ⟨k + 1, ⟨by omega, all_succ hr (fun j q h1 h2 => ?_) hinv⟩, by omega, ⟨[(0, 0)], rfl, ⟨rfl, rfl, rfl, trivial⟩, rfl, trivial⟩⟩
      rw [List.any_eq_false] at h
      have := h q (List.mem_of_getElem? (take_get.2 ⟨h1, h2⟩))
      simpa using this
  have hfix := fixed_apart.1 (before_all hkl hinv)
  iterate 20 (all_goals ((conv => whnf); first | ((with_reducible refine sl_full ?ha ?_); (case ha => exact gA)) | ((with_reducible refine Ob.intro ?ha ?_); (case ha => exact gC)) | ((with_reducible refine br_lt ?_)) | ((with_reducible refine br_lf ?_)) | ((with_reducible refine br_pos ?ha ?_); (case ha => exact gB)) | ((with_reducible refine br_neg ?ha ?_); (case ha => exact gB)) | ((with_reducible refine br_t ?ha ?_); (case ha => with_reducible assumption)) | ((with_reducible refine br_f ?ha ?_); (case ha => with_reducible assumption)) | ((with_reducible refine br_dec (fun h => ?_) (fun h => ?_))) | ((with_reducible refine br_not ?_)) | ((with_reducible refine br_b (fun h => ?_) (fun h => ?_))) | ((with_reducible refine wr_i64 rfl ?ha ?hb ?_); (case ha => exact gB); (case hb => exact gB)) | ((with_reducible refine wr_u64 rfl ?ha ?hb ?_); (case ha => exact gB); (case hb => exact gB)) | ((with_reducible refine wr_u32 rfl ?ha ?hb ?_); (case ha => exact gB); (case hb => exact gB)) | ((with_reducible refine And.intro ?_ ?_)) | ((with_reducible refine True.intro)) | ((with_reducible refine Stp.go ?_)) | skip))
  refine Lp.intro Nat (fun k => ⟨1, [(0, boxT t)], [(1, .op 0 0), (8, .v (.int .i64 k))]⟩)
    (fun k => k ≤ t.pools.length ∧ ∀ (i : Nat) p, i < k → t.pools[i]? = some p → p.okP ∧ ∀ (j : Nat) q, j < i → t.pools[j]? = some q → p.meet q = false) (fun k => t.pools.length - k) 0 ?_ ?_ ?_
  · exact ⟨Nat.zero_le _, fun i y hi => absurd hi (Nat.not_lt_zero _)⟩
  · exact ⟨[(0, 0)], rfl, ⟨rfl, rfl, trivial⟩, rfl, trivial⟩
  intro k ⟨hk, hinv⟩
  rcases Nat.lt_or_ge k t.pools.length with hkl | hkl
  · obtain ⟨r, hr⟩ : ∃ r, t.pools[k]? = some r := ⟨_, List.getElem?_eq_getElem hkl⟩
    have hlen : (t.pools.take k).length = k := by simp; omega
    iterate 40 (all_goals ((conv => whnf); first | (with_reducible refine in_map hkl ?_) | (with_reducible refine ix_map hr ?_) | (with_reducible refine crVal r ?_) | (with_reducible refine sb_take (by omega) ?_) | (with_reducible refine cuMeets r _ (by omega) ?_) | ((with_reducible refine sl_full ?ha ?_); (case ha => exact gA)) | ((with_reducible refine Ob.intro ?ha ?_); (case ha => exact gC)) | ((with_reducible refine br_lt ?_)) | ((with_reducible refine br_lf ?_)) | ((with_reducible refine br_pos ?ha ?_); (case ha => exact gB)) | ((with_reducible refine br_neg ?ha ?_); (case ha => exact gB)) | ((with_reducible refine br_t ?ha ?_); (case ha => with_reducible assumption)) | ((with_reducible refine br_f ?ha ?_); (case ha => with_reducible assumption)) | ((with_reducible refine br_dec (fun h => ?_) (fun h => ?_))) | ((with_reducible refine br_not ?_)) | ((with_reducible refine br_b (fun h => ?_) (fun h => ?_))) | ((with_reducible refine wr_i64 rfl ?ha ?hb ?_); (case ha => exact gB); (case hb => exact gB)) | ((with_reducible refine wr_u64 rfl ?ha ?hb ?_); (case ha => exact gB); (case hb => exact gB)) | ((with_reducible refine wr_u32 rfl ?ha ?hb ?_); (case ha => exact gB); (case hb => exact gB)) | ((with_reducible refine And.intro ?_ ?_)) | ((with_reducible refine True.intro)) | ((with_reducible refine Stp.go ?_)) | skip))
    · refine fin_f hK (topB_false fun hn => ?_)
      obtain ⟨q, hq1, hq2⟩ := List.any_eq_true.1 h
      obtain ⟨j, hj⟩ := List.mem_iff_getElem?.1 hq1
      have hj2 := take_get.1 hj
      rw [(hn.pool k r hr).2 j q hj2.1 hj2.2] at hq2; cases hq2
    · refine ⟨k + 1, ⟨by omega, all_succ hr ⟨by assumption, fun j q h1 h2 => ?_⟩ hinv⟩, by omega, ⟨[(0, 0)], rfl, ⟨rfl, rfl, trivial⟩, rfl, trivial⟩⟩
      rw [List.any_eq_false] at h
      have := h q (List.mem_of_getElem? (take_get.2 ⟨h1, h2⟩))
      simpa using this
    · exact fin_f hK (topB_false fun hn => h (hn.pool k r hr).1)
  have hpool := before_all hkl hinv
  iterate 20 (all_goals ((conv => whnf); first | ((with_reducible refine sl_full ?ha ?_); (case ha => exact gA)) | ((with_reducible refine Ob.intro ?ha ?_); (case ha => exact gC)) | ((with_reducible refine br_lt ?_)) | ((with_reducible refine br_lf ?_)) | ((with_reducible refine br_pos ?ha ?_); (case ha => exact gB)) | ((with_reducible refine br_neg ?ha ?_); (case ha => exact gB)) | ((with_reducible refine br_t ?ha ?_); (case ha => with_reducible assumption)) | ((with_reducible refine br_f ?ha ?_); (case ha => with_reducible assumption)) | ((with_reducible refine br_dec (fun h => ?_) (fun h => ?_))) | ((with_reducible refine br_not ?_)) | ((with_reducible refine br_b (fun h => ?_) (fun h => ?_))) | ((with_reducible refine wr_i64 rfl ?ha ?hb ?_); (case ha => exact gB); (case hb => exact gB)) | ((with_reducible refine wr_u64 rfl ?ha ?hb ?_); (case ha => exact gB); (case hb => exact gB)) | ((with_reducible refine wr_u32 rfl ?ha ?hb ?_); (case ha => exact gB); (case hb => exact gB)) | ((with_reducible refine And.intro ?_ ?_)) | ((with_reducible refine True.intro)) | ((with_reducible refine Stp.go ?_)) | skip))
  exact fin_t hK (topB_true ⟨hdb'.1.1, hdb'.1.2, l1, e1, p1, t0, t1, hdb'.2, hlink, hedge, hfix, hpool⟩)
end Go.Proofs.YtgcplfplbcpemaaGreat

