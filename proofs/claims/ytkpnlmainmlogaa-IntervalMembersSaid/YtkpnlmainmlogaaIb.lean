/- Ranges as lists, and the first contracts. -/
import Derived.Test.YtkpnlmainmlogaaIctx
import Derived.Laws.StructEq
set_option linter.unusedVariables false
set_option linter.unusedSimpArgs false
namespace Go.Proofs.Ytkpnlmainmlogaa
open Go Go.Vm

structure Rg where
  lo : Int
  hi : Int
  l0 : 0 ≤ lo
  l1 : lo ≤ 4294967295
  h0 : 0 ≤ hi
  h1 : hi ≤ 4294967295
deriving DecidableEq

noncomputable def encR (r : Rg) : AV := .agg [.v (.int .u32 r.lo), .v (.int .u32 r.hi)]
noncomputable abbrev encRs (l : List Rg) : AV := .lst (l.map encR)
def has (l : List Rg) (v : Int) : Bool := l.any fun r => decide (r.lo ≤ v) && decide (v ≤ r.hi)

theorem has_iff {l : List Rg} {v : Int} : has l v = true ↔ ∃ r, r ∈ l ∧ r.lo ≤ v ∧ v ≤ r.hi := by
  simp [has, List.any_eq_true]

theorem has_succ {l : List Rg} {v : Int} {k : Nat} {r : Rg} (h : l[k]? = some r) : has (l.take (k + 1)) v = (has (l.take k) v || (decide (r.lo ≤ v) && decide (v ≤ r.hi))) := by
  simp [has, List.take_add_one, h]
theorem has_mem {l : List Rg} {v : Int} {k : Nat} {r : Rg} (h : l[k]? = some r) (h1 : r.lo ≤ v) (h2 : v ≤ r.hi) : has l v = true := has_iff.2 ⟨r, List.mem_of_getElem? h, h1, h2⟩

theorem run_eq40 (a b c d : Int) (w : World) : (Op.equalIn 10000 40 (.agg #[.int .u32 a, .int .u32 b]) (.agg #[.int .u32 c, .int .u32 d])).run Try.prog w = .ok ((a == c) && (b == d)) w := by
  rw [run_equalIn_struct w 9999 40 _ _ (by kernel_rfl) (by kernel_rfl)]
  have hf : ((Try.prog.fieldsOf 40).toList.map fun f => (f.name == "_", f.type, f.offset)) = [(false, 24, 0), (false, 24, 1)] := by kernel_rfl
  generalize (Try.prog.fieldsOf 40).toList = fs at hf
  have hu : Try.prog.underlying 24 = some (.int .u32) := by kernel_rfl
  have ha : ∀ w, (isAgg 24).run Try.prog w = .ok false w := fun w => by simp [isAgg, run_underlying hu]
  have hp : ∀ (xs : Array Value) (i : Nat) (v : Value), xs[i]? = some v → ∀ w, (part 24 xs i).run Try.prog w = .ok v w := by
    intro xs i v h w
    simp [part, ha, h]
  have p1 := hp #[.int .u32 a, .int .u32 b] 0 (.int .u32 a) rfl
  have p2 := hp #[.int .u32 a, .int .u32 b] 1 (.int .u32 b) rfl
  have p3 := hp #[.int .u32 c, .int .u32 d] 0 (.int .u32 c) rfl
  have p4 := hp #[.int .u32 c, .int .u32 d] 1 (.int .u32 d) rfl
  cases fs with
  | nil => simp at hf
  | cons f fs =>
    cases fs with
    | nil => simp at hf
    | cons g fs =>
      cases fs with
      | cons g fs => simp at hf
      | nil =>
        simp only [List.map_cons, List.map_nil, List.cons.injEq, Prod.mk.injEq, beq_eq_false_iff_ne, and_true] at hf
        obtain ⟨⟨h1, h2, h3⟩, h4, h5, h6⟩ := hf
        simp only [Op.eqFields, h1, h2, h3, h4, h5, h6, ne_eq, not_false_eq_true, if_true, Sem.run_bind, p1, p2, p3, p4, Result.andThen_ok, run_equalIn_int _ 9998 24 .u32 .u32 _ _ hu, Sem.run_ite, Sem.run_pure]
        cases h : a == c <;> cases h' : b == d <;> simp
theorem eqv_R {r s : Rg} {K : Bool → Prop} (hk : K (decide (r = s))) : EqV Try.prog 40 [.v (.int .u32 r.lo), .v (.int .u32 r.hi)] [.v (.int .u32 s.lo), .v (.int .u32 s.hi)] K := by
  refine EqV.intro [.int .u32 r.lo, .int .u32 r.hi] [.int .u32 s.lo, .int .u32 s.hi] (decide (r = s)) rfl rfl (by kernel_rfl) (fun w => ?_) hk
  rw [run_eq40]
  have : ((r.lo == s.lo) && (r.hi == s.hi)) = decide (r = s) := by
    cases r; cases s
    rw [Bool.eq_iff_iff]
    simp
  rw [this]

/-- huge -/
theorem c15 (l : List Rg) {K : AV → List Vm.Obj → Prop} (hK : K (.sb (decide (40 < l.length))) []) : ACall Try.prog 15 [encRs l] [] K := by
  refine ACall.bool (of15 rfl rfl ?_)
  conv => whnf
  refine .inr ⟨_, rfl, ?_⟩
  have e : (decide ((40 : Int) < ((l.map encR).length : Int))) = decide (40 < l.length) := by
    rw [List.length_map]; exact decide_eq_decide.2 (by omega)
  rw [e]; exact hK
/-- nsgref2.Contains -/
theorem c34 (l : List Rg) (v : Int) (hl : l.length < 1000000) {K : AV → List Vm.Obj → Prop} (hK : K (.sb (has l v)) []) : ACall Try.prog 34 [encRs l, .v (.int .u32 v)] [] K := by
  refine ACall.bool (of34 rfl rfl ?_)
  conv => whnf
  refine Lp.intro Nat (fun k => ⟨0, [], [(0, encRs l), (1, .v (.int .u32 v)), (5, .v (.int .i64 k))]⟩) (fun k => k ≤ l.length ∧ has (l.take k) v = false) (fun k => l.length - k) 0 ?_ ?_ ?_
  · exact ⟨by omega, by simp [has]⟩
  · exact ⟨[], rfl, ⟨rfl, rfl, rfl, trivial⟩, trivial⟩
  · intro k ⟨hk, hinv⟩
    have next : ∀ {σ : St} {r : Rg}, l[k]? = some r → ¬ (r.lo ≤ v ∧ v ≤ r.hi) → k < l.length → Le 0 ⟨0, [], [(0, encRs l), (1, .v (.int .u32 v)), (5, .v (.int .i64 ((k + 1 : Nat) : Int)))]⟩ σ →
        ∃ g', (g' ≤ l.length ∧ has (l.take g') v = false) ∧ l.length - g' < l.length - k ∧ Le 0 ⟨0, [], [(0, encRs l), (1, .v (.int .u32 v)), (5, .v (.int .i64 (g' : Int)))]⟩ σ := by
      intro σ r hr hn hkl hle
      refine ⟨k + 1, ⟨by omega, ?_⟩, by omega, hle⟩
      rw [has_succ hr, hinv]
      simp only [Bool.false_or, Bool.and_eq_false_iff, decide_eq_false_iff_not]
      omega
    conv => whnf
    refine br_dec (fun h => ?_) (fun h => ?_)
    · have hkl : k < l.length := by simp at h; omega
      conv => whnf
      refine in_map hkl ?_
      refine ix_any hkl (fun r hr => ?_)
      conv => whnf
      refine br_dec (fun h1 => ?_) (fun h1 => ?_)
      · conv => whnf
        refine in_map hkl ?_
        refine ix_map hr ?_
        conv => whnf
        refine br_dec (fun h2 => ?_) (fun h2 => ?_)
        · conv => whnf
          refine .inl ⟨true, rfl, ?_⟩
          rw [has_mem hr h1 h2] at hK
          exact hK
        · conv => whnf
          refine wr_i64 (r := ((k + 1 : Nat) : Int)) (by omega) (by omega) (by omega) ?_
          conv => whnf
          exact next hr (by omega) hkl ⟨[], rfl, ⟨rfl, rfl, rfl, trivial⟩, trivial⟩
      · conv => whnf
        refine wr_i64 (r := ((k + 1 : Nat) : Int)) (by omega) (by omega) (by omega) ?_
        conv => whnf
        exact next hr (by omega) hkl ⟨[], rfl, ⟨rfl, rfl, rfl, trivial⟩, trivial⟩
    · conv => whnf
      have hkl : k = l.length := by simp at h; omega
      refine .inl ⟨false, rfl, ?_⟩
      rw [hkl, List.take_length] at hinv
      rw [hinv] at hK
      exact hK
/-- nsgref2.Same -/
theorem c22 (a b : List Rg) (ha : a.length < 1000000) (hb : b.length < 1000000) {K : AV → List Vm.Obj → Prop} (hK : K (.sb (decide (a = b))) []) : ACall Try.prog 22 [encRs a, encRs b] [] K := by
  refine ACall.bool (of22 rfl rfl ?_)
  conv => whnf
  refine br_not (br_dec (fun h => ?_) (fun h => ?_))
  · have hl : a.length = b.length := by simp at h; omega
    conv => whnf
    refine Lp.intro Nat (fun k => ⟨0, [], [(0, encRs a), (1, encRs b), (5, .v (.int .i64 k))]⟩) (fun k => k ≤ a.length ∧ a.take k = b.take k) (fun k => a.length - k) 0 ?_ ?_ ?_
    · exact ⟨by omega, by simp⟩
    · exact ⟨[], rfl, ⟨rfl, rfl, rfl, trivial⟩, trivial⟩
    · intro k ⟨hk, hinv⟩
      conv => whnf
      refine br_dec (fun h => ?_) (fun h => ?_)
      · have hkl : k < a.length := by simp at h; omega
        have hkb : k < b.length := by omega
        conv => whnf
        refine .intro (by kernel_rfl) ?_
        conv => whnf
        refine in_map hkl ?_
        refine ix_any hkl (fun r hr => ?_)
        conv => whnf
        refine in_map hkb ?_
        refine ix_any hkb (fun s hs => ?_)
        conv => whnf
        refine eqv_R ?_
        conv => whnf
        refine br_not (br_dec (fun h1 => ?_) (fun h1 => ?_))
        · conv => whnf
          refine wr_i64 (r := ((k + 1 : Nat) : Int)) (by omega) (by omega) (by omega) ?_
          conv => whnf
          refine ⟨k + 1, ⟨by omega, ?_⟩, by omega, ⟨[], rfl, ⟨rfl, rfl, rfl, trivial⟩, trivial⟩⟩
          rw [List.take_add_one, List.take_add_one, hinv, hr, hs, h1]
        · conv => whnf
          refine .inl ⟨false, rfl, ?_⟩
          have hne : a ≠ b := fun e => by subst e; rw [hr] at hs; cases hs; exact h1 rfl
          rw [decide_eq_false hne] at hK
          exact hK
      · conv => whnf
        have hkl : k = a.length := by simp at h; omega
        refine .inl ⟨true, rfl, ?_⟩
        have he : a = b := by
          rw [hkl, List.take_length, hl, List.take_length] at hinv; exact hinv
        rw [decide_eq_true he] at hK
        exact hK
  · conv => whnf
    refine .inl ⟨false, rfl, ?_⟩
    have hne : a ≠ b := fun e => h (by subst e; rfl)
    rw [decide_eq_false hne] at hK
    exact hK

end Go.Proofs.Ytkpnlmainmlogaa
