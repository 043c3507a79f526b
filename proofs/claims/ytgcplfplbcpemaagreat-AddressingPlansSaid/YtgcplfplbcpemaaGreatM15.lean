/- The generator: prefixes; prefixes and topologies with one property changed: some prefix, some small topology. AddressingPlans: its contract. The plans of topologies, which ones fit, and the free prefixes are those of the reference: the statement AddressingPlansSaid holds, for every input, without a condition. -/
import Derived.Test.YtgcplfplbcpemaaGreatM14
set_option linter.unusedVariables false
set_option linter.unusedSimpArgs false
set_option maxRecDepth 20000
set_option maxHeartbeats 4000000
namespace Go.Proofs.YtgcplfplbcpemaaGreat
open Go Go.Vm

theorem bb_u32 (op : BinOp) (a b : Int) : 0 ≤ bBits op .u32 a b ∧ bBits op .u32 a b ≤ 4294967295 := by
  have h : ∀ e : Int, 0 ≤ IntKind.u32.wrap e ∧ IntKind.u32.wrap e ≤ 4294967295 := fun e => by
    simp only [IntKind.wrap, IntKind.signed, IntKind.bits]; simp; omega
  unfold bBits
  simp only
  split <;> exact h _
theorem wr_i64_any {e : Int} {K : Int → Prop} (h : ∀ r, K r) : Wr .i64 e K := wr_any h
theorem ix_intsB {xs : List AV} {i : Nat} {K : AV → Prop} (L : List Int) (n : Nat) (lo hi : Int) (h : xs = L.map fun c => .v (.int .i64 c)) (hn : L.length = n) (hb : (L.all fun c => decide (lo ≤ c) && decide (c ≤ hi)) = true) (hi' : i < n) (hk : ∀ c, lo ≤ c → c ≤ hi → K (.v (.int .i64 c))) : Ix xs i K :=
  ix_ints L n h hn hi' fun c hc => by
    have := List.all_eq_true.1 hb c hc
    simp only [Bool.and_eq_true, decide_eq_true_eq] at this
    exact hk c this.1 this.2
/-- (*Tape).SpoilPrefix -/
theorem cnSpP (raw : List Int) (pos : Nat) (p : Pf) (hp : pos ≤ raw.length) (hr : raw.length ≤ 9223372036854775807) {K : AV → List Vm.Obj → Prop}
    (hK : ∀ (q : Pf) (pos' : Nat), pos' ≤ raw.length → K (encP q) [tapeO raw pos']) : ACall Tryz.prog 22 [.op 0 0, encP p] [tapeO raw pos] K := by
  have b0 := p.a0; have b1 := p.a1
  refine ofnSpP rfl rfl ?_
  (all_goals (repeat' ((conv => whnf); first | (with_reducible refine nNext raw _ _ (by omega) (by assumption) hr fun m1 p1 hm1 hp1 => ?_) | (with_reducible refine in_nat (by omega) ?_) | (with_reducible refine ix_ints [-1, 33, 0, 32] 4 rfl rfl (by omega) fun c hc => ?_) | (with_reducible refine wr_u32_any fun r r0 r1 => ?_) | (with_reducible refine wr_i64_any fun r => ?_) | ((with_reducible refine sl_full ?ha ?_); (case ha => exact gA)) | ((with_reducible refine Ob.intro ?ha ?_); (case ha => exact gC)) | ((with_reducible refine br_lt ?_)) | ((with_reducible refine br_lf ?_)) | ((with_reducible refine br_pos ?ha ?_); (case ha => exact gB)) | ((with_reducible refine br_neg ?ha ?_); (case ha => exact gB)) | ((with_reducible refine br_t ?ha ?_); (case ha => with_reducible assumption)) | ((with_reducible refine br_f ?ha ?_); (case ha => with_reducible assumption)) | ((with_reducible refine br_dec (fun h => ?_) (fun h => ?_))) | ((with_reducible refine br_not ?_)) | ((with_reducible refine br_b (fun h => ?_) (fun h => ?_))) | ((with_reducible refine wr_i64 rfl ?ha ?hb ?_); (case ha => exact gB); (case hb => exact gB)) | ((with_reducible refine wr_u64 rfl ?ha ?hb ?_); (case ha => exact gB); (case hb => exact gB)) | ((with_reducible refine wr_u32 rfl ?ha ?hb ?_); (case ha => exact gB); (case hb => exact gB)) | ((with_reducible refine And.intro ?_ ?_)) | ((with_reducible refine True.intro)) | ((with_reducible refine Stp.go ?_))))); (all_goals (conv => whnf))
  · exact hK ⟨p.addr, c, b0, b1⟩ _ (by assumption)
  · exact hK ⟨bBits .or .u32 p.addr 1, p.bits, (bb_u32 ..).1, (bb_u32 ..).2⟩ _ (by assumption)
  · rename_i r
    exact hK ⟨p.addr, r, b0, b1⟩ _ (by assumption)
  · exact hK ⟨bBits .xor .u32 p.addr r, p.bits, (bb_u32 ..).1, (bb_u32 ..).2⟩ _ (by assumption)
/-- (*Tape).Prefix -/
theorem cnPref (raw : List Int) (pos : Nat) (hp : pos ≤ raw.length) (hr : raw.length ≤ 9223372036854775807) {K : AV → List Vm.Obj → Prop}
    (hK : ∀ (q : Pf) (pos' : Nat), pos' ≤ raw.length → K (encP q) [tapeO raw pos']) : ACall Tryz.prog 23 [.op 0 0] [tapeO raw pos] K := by
  refine ofnPref rfl rfl ?_
  (all_goals (repeat' ((conv => whnf); first | (with_reducible refine nNext raw _ _ (by omega) (by assumption) hr fun m1 p1 hm1 hp1 => ?_) | (with_reducible refine in_nat (by omega) ?_) | (with_reducible refine cnSub _ (by omega) ?_) | (with_reducible refine ix_intsB [32, 31, 24, 25, 8, 1, 0, 16, 30, 23] 10 0 32 rfl rfl (by decide) (by omega) fun c c0 c1 => ?_) | (with_reducible refine cnAddr raw _ (by assumption) hr fun a p2 a0 a1 hp2 => ?_) | (with_reducible refine wr_u32_any fun r r0 r1 => ?_) | ((with_reducible refine sl_full ?ha ?_); (case ha => exact gA)) | ((with_reducible refine Ob.intro ?ha ?_); (case ha => exact gC)) | ((with_reducible refine br_lt ?_)) | ((with_reducible refine br_lf ?_)) | ((with_reducible refine br_pos ?ha ?_); (case ha => exact gB)) | ((with_reducible refine br_neg ?ha ?_); (case ha => exact gB)) | ((with_reducible refine br_t ?ha ?_); (case ha => with_reducible assumption)) | ((with_reducible refine br_f ?ha ?_); (case ha => with_reducible assumption)) | ((with_reducible refine br_dec (fun h => ?_) (fun h => ?_))) | ((with_reducible refine br_not ?_)) | ((with_reducible refine br_b (fun h => ?_) (fun h => ?_))) | ((with_reducible refine wr_i64 rfl ?ha ?hb ?_); (case ha => exact gB); (case hb => exact gB)) | ((with_reducible refine wr_u64 rfl ?ha ?hb ?_); (case ha => exact gB); (case hb => exact gB)) | ((with_reducible refine wr_u32 rfl ?ha ?hb ?_); (case ha => exact gB); (case hb => exact gB)) | ((with_reducible refine And.intro ?_ ?_)) | ((with_reducible refine True.intro)) | ((with_reducible refine Stp.go ?_))))); (all_goals (conv => whnf))
  · exact hK _ _ (by assumption)
  · exact hK ⟨r, c, r0, r1⟩ _ (by assumption)
  · exact hK ⟨a, c, a0, a1⟩ _ (by assumption)
/-- whatever small topology it is -/
theorem tp_of {D L E P : List AV} {tol : Int} (hD : ∀ y, y ∈ D → ∃ a : Dv, y = encD a) (hL : ∀ y, y ∈ L → ∃ a : Lk, y = encL a) (hE : ∀ y, y ∈ E → ∃ a : Ed, y = encE a) (hP : ∀ y, y ∈ P → ∃ a : Pf, y = encP a) :
    ∃ t : Tp, AV.agg [.lst D, .lst L, .lst E, .lst P, .v (.int .i64 tol)] = encT t := by
  obtain ⟨d, rfl⟩ := list_enc encD hD
  obtain ⟨l, rfl⟩ := list_enc encL hL
  obtain ⟨e, rfl⟩ := list_enc encE hE
  obtain ⟨p, rfl⟩ := list_enc encP hP
  exact ⟨⟨d, l, e, p, tol⟩, rfl⟩
theorem eD (n : ByteArray) (c : Int) (r v : Bool) (s : ByteArray) : ∃ a : Dv, AV.agg [.v (.string n), .v (.int .i64 c), .sb r, .sb v, .v (.string s)] = encD a := ⟨⟨n, c, r, v, s⟩, rfl⟩
theorem eL (a b c : Int) : ∃ x : Lk, AV.agg [.v (.int .i64 a), .v (.int .i64 b), .v (.int .i64 c)] = encL x := ⟨⟨a, b, c⟩, rfl⟩
theorem eE (n : ByteArray) (d : Int) (z : ByteArray) (p : Pf) (b : Bool) : ∃ a : Ed, AV.agg [.v (.string n), .v (.int .i64 d), .v (.string z), .v (.int .u32 p.addr), .v (.int .i64 p.bits), .sb b] = encE a := ⟨⟨n, d, z, p, b⟩, rfl⟩
theorem eP (p : Pf) : ∃ a : Pf, AV.agg [.v (.int .u32 p.addr), .v (.int .i64 p.bits)] = encP a := ⟨p, rfl⟩
theorem all_map {α : Type} {f : α → AV} (l : List α) : ∀ y, y ∈ l.map f → ∃ a, y = f a := fun y hy => by
  obtain ⟨a, _, rfl⟩ := List.mem_map.1 hy; exact ⟨a, rfl⟩
theorem all_app {Q : AV → Prop} {l : List AV} {x : AV} (h : ∀ y, y ∈ l → Q y) (hx : Q x) : ∀ y, y ∈ l ++ [x] → Q y := fun y hy => by
  rcases List.mem_append.1 hy with h1 | h1
  · exact h y h1
  · rw [List.mem_singleton.1 h1]; exact hx
theorem all_set {Q : AV → Prop} {l : List AV} {i : Nat} {x : AV} (h : ∀ y, y ∈ l → Q y) (hx : Q x) : ∀ y, y ∈ l.set i x → Q y := fun y hy => by
  rcases List.mem_or_eq_of_mem_set hy with h1 | h1
  · exact h y h1
  · rw [h1]; exact hx
theorem all_drop {Q : AV → Prop} {l : List AV} {i : Nat} (h : ∀ y, y ∈ l → Q y) : ∀ y, y ∈ l.drop i → Q y := fun y hy => h y (List.mem_of_mem_drop hy)
theorem all_take {Q : AV → Prop} {l : List AV} {i : Nat} (h : ∀ y, y ∈ l → Q y) : ∀ y, y ∈ l.take i → Q y := fun y hy => h y (List.mem_of_mem_take hy)
/-- (*Tape).SpoilTopology -/
theorem cnSpT (raw : List Int) (pos : Nat) (t : Tp) (ht : t.devs.length < 100 ∧ t.links.length < 100 ∧ t.edges.length < 100 ∧ t.pools.length < 100) (hp : pos ≤ raw.length) (hr : raw.length ≤ 9223372036854775807) {K : AV → List Vm.Obj → Prop}
    (hK : ∀ (u : Tp) (pos' : Nat), pos' ≤ raw.length → K (encT u) [tapeO raw pos']) : ACall Tryz.prog 8 [.op 0 0, encT t] [tapeO raw pos] K := by
  obtain ⟨l1, l2, l3, l4⟩ := ht
  have hE : ∀ (D L E P : List AV) (tol : Int) (p' : Nat), (∀ y, y ∈ D → ∃ a : Dv, y = encD a) → (∀ y, y ∈ L → ∃ a : Lk, y = encL a) → (∀ y, y ∈ E → ∃ a : Ed, y = encE a) → (∀ y, y ∈ P → ∃ a : Pf, y = encP a) → p' ≤ raw.length → K (.agg [.lst D, .lst L, .lst E, .lst P, .v (.int .i64 tol)]) [tapeO raw p'] := fun D L E P tol p' h1 h2 h3 h4 hp' => by
    obtain ⟨u, hu⟩ := tp_of (tol := tol) h1 h2 h3 h4
    rw [hu]; exact hK u p' hp'
  have hK' : ∀ (D : List Dv) (L : List Lk) (E : List Ed) (P : List Pf) (tol : Int) (p' : Nat), p' ≤ raw.length → K (.agg [.lst (D.map encD), .lst (L.map encL), .lst (E.map encE), .lst (P.map encP), .v (.int .i64 tol)]) [tapeO raw p'] := fun D L E P tol p' hp' => hK ⟨D, L, E, P, tol⟩ p' hp'
  refine ofnSpT rfl rfl ?_
  (all_goals (repeat' ((conv => whnf); first | (with_reducible refine cnCopy t (by omega) ?_) | (with_reducible refine nNext raw _ _ (by omega) (by assumption) hr fun m1 p1 hm1 hp1 => ?_) | (with_reducible refine in_nat (by omega) ?_) | (with_reducible refine cnSpP raw _ r.pf (by assumption) hr fun q p2 hp2 => ?_) | (with_reducible refine cnPref raw _ (by assumption) hr fun q p2 hp2 => ?_) | (with_reducible refine ix_strs [⟨#[114, 49]⟩, ⟨#[97, 110, 121]⟩, ⟨#[82]⟩, ⟨#[122, 122]⟩] 4 rfl rfl (by omega) fun s hs => ?_) | (with_reducible refine ix_strs [⟨#[97, 110, 121]⟩, ⟨#[105, 112, 115]⟩, ⟨#[90]⟩, ⟨#[97, 32, 98]⟩] 4 rfl rfl (by omega) fun s hs => ?_) | (with_reducible refine ix_strs [⟨#[]⟩, ⟨#[97, 110, 121]⟩, ⟨#[100, 109, 122]⟩] 3 rfl rfl (by omega) fun s hs => ?_) | (with_reducible refine ix_ints [0, 1001, -1, 7] 4 rfl rfl (by omega) fun c hc => ?_) | (with_reducible refine ix_ints [3, -1, 2] 3 rfl rfl (by omega) fun c hc => ?_) | (with_reducible refine ix_ints [4097, -1, 7] 3 rfl rfl (by omega) fun c hc => ?_) | (with_reducible refine In.intro 0 rfl (by omega) ?_) | (with_reducible refine In.intro (t.edges.length - 1) (by omega) (by omega) ?_) | (with_reducible refine ix_any (by omega) fun r hx => ?_) | (with_reducible refine ix_set (by rw [List.length_map]; omega) ?_) | (with_reducible refine Sb.intro 1 t.devs.length rfl rfl (by omega) (by omega) ?_) | (with_reducible refine Sb.intro 1 t.edges.length rfl rfl (by omega) (by omega) ?_) | (with_reducible refine sl_map (by omega) ?_) | ((with_reducible refine sl_full ?ha ?_); (case ha => exact gA)) | ((with_reducible refine Ob.intro ?ha ?_); (case ha => exact gC)) | ((with_reducible refine br_lt ?_)) | ((with_reducible refine br_lf ?_)) | ((with_reducible refine br_pos ?ha ?_); (case ha => exact gB)) | ((with_reducible refine br_neg ?ha ?_); (case ha => exact gB)) | ((with_reducible refine br_t ?ha ?_); (case ha => with_reducible assumption)) | ((with_reducible refine br_f ?ha ?_); (case ha => with_reducible assumption)) | ((with_reducible refine br_dec (fun h => ?_) (fun h => ?_))) | ((with_reducible refine br_not ?_)) | ((with_reducible refine br_b (fun h => ?_) (fun h => ?_))) | ((with_reducible refine wr_i64 rfl ?ha ?hb ?_); (case ha => exact gB); (case hb => exact gB)) | ((with_reducible refine wr_u64 rfl ?ha ?hb ?_); (case ha => exact gB); (case hb => exact gB)) | ((with_reducible refine wr_u32 rfl ?ha ?hb ?_); (case ha => exact gB); (case hb => exact gB)) | ((with_reducible refine And.intro ?_ ?_)) | ((with_reducible refine True.intro)) | ((with_reducible refine Stp.go ?_))))); (all_goals (conv => whnf))
  all_goals first
    | exact hK' t.devs t.links t.edges t.pools _ _ (by assumption)
    | (refine hE _ _ _ _ _ _ ?_ ?_ ?_ ?_ (by assumption) <;> (repeat' first | exact all_map _ | refine all_app ?_ ?_ | refine all_set ?_ ?_ | refine all_drop ?_ | refine all_take ?_) <;>
        first | exact eD _ _ _ _ _ | exact eL _ _ _ | exact eE _ _ _ _ _ | exact eP _)
end Go.Proofs.YtgcplfplbcpemaaGreat

set_option linter.unusedVariables false
set_option linter.unusedSimpArgs false
set_option maxRecDepth 20000
set_option maxHeartbeats 4000000
namespace Go.Proofs.YtgcplfplbcpemaaGreat
open Go Go.Vm

theorem gpla_small {t : Tp} (h : GPla t) : t.devs.length < 100 ∧ t.links.length < 100 ∧ t.edges.length < 100 ∧ t.pools.length < 100 := by
  have hpl : t.pools.length ≤ 2 := by rcases h.pools with h | h | h <;> rw [h] <;> decide
  have := h.d6; have := h.l9; have := h.e5
  omega
theorem cnTop2 (raw : List Int) (pos : Nat) (hp : pos ≤ raw.length) (hr : raw.length ≤ 9223372036854775807) {K : AV → List Vm.Obj → Prop}
    (hK : ∀ (t : Tp) (pos' : Nat), GTop t → pos' ≤ raw.length → K (.agg [.os 1 5 0 t.devs.length, .os 2 3 0 t.links.length, .os 3 6 0 t.edges.length, .os 4 2 0 t.pools.length, .v (.int .i64 t.tol)]) [tapeO raw pos', .arr 5 (t.devs.map encD), .arr 3 (t.links.map encL), .arr 6 (t.edges.map encE), .arr 2 (t.pools.map encP)]) :
    ACall Tryz.prog 9 [.op 0 0, .v (.int .i64 2)] [tapeO raw pos] K := cnTop raw pos 2 (by omega) hp hr fun t p h _ h2 => hK t p h h2
/-- AddressingPlans -/
theorem cPlans (raw : List Int) (x : Tp) (hr : raw.length ≤ 9223372036854775807) : ACall Tryz.prog 3 [.lst (raw.map encI), encT x] [] Yes := by
  refine ACall.bool (oflPlans rfl rfl ?_)
  (all_goals (repeat' ((conv => whnf); first | (with_reducible refine c9 raw ?_) | ((with_reducible refine sl_full ?ha ?_); (case ha => exact gA)) | ((with_reducible refine Ob.intro ?ha ?_); (case ha => exact gC)) | ((with_reducible refine br_lt ?_)) | ((with_reducible refine br_lf ?_)) | ((with_reducible refine br_pos ?ha ?_); (case ha => exact gB)) | ((with_reducible refine br_neg ?ha ?_); (case ha => exact gB)) | ((with_reducible refine br_t ?ha ?_); (case ha => with_reducible assumption)) | ((with_reducible refine br_f ?ha ?_); (case ha => with_reducible assumption)) | ((with_reducible refine br_dec (fun h => ?_) (fun h => ?_))) | ((with_reducible refine br_not ?_)) | ((with_reducible refine br_b (fun h => ?_) (fun h => ?_))) | ((with_reducible refine wr_i64 rfl ?ha ?hb ?_); (case ha => exact gB); (case hb => exact gB)) | ((with_reducible refine wr_u64 rfl ?ha ?hb ?_); (case ha => exact gB); (case hb => exact gB)) | ((with_reducible refine wr_u32 rfl ?ha ?hb ?_); (case ha => exact gB); (case hb => exact gB)) | ((with_reducible refine And.intro ?_ ?_)) | ((with_reducible refine True.intro)) | ((with_reducible refine Stp.go ?_))))); (all_goals (conv => whnf))
  refine Lp.intro (Nat × Nat) (fun g => ⟨2, [(0, boxT x), (1, tapeO raw g.1)], [(3, .op 0 0), (5, .op 1 0), (6, .v (.int .i64 g.2))]⟩) (fun g => g.1 ≤ raw.length ∧ g.2 ≤ 5) (fun g => 5 - g.2) (0, 0) ⟨Nat.zero_le _, Nat.zero_le _⟩ ?_ ?_
  · (refine Le.auto ?_; repeat' ((conv => whnf); first | with_reducible refine And.intro ?_ ?_ | with_reducible exact True.intro | rfl))
  rintro ⟨p0, i⟩ ⟨hp0, hi⟩
  simp only at hp0 hi ⊢
  rcases Nat.lt_or_ge i 5 with hlt | hge
  · (all_goals (repeat' ((conv => whnf); first | (with_reducible refine cnPla3 raw _ (by omega) hr fun y p1 hg hp1 => ?_) | (with_reducible refine cplans _ ?_) | (with_reducible refine cnSpT raw _ _ (gpla_small (by assumption)) (by assumption) hr fun u p2 hp2 => ?_) | (with_reducible refine cnTop2 raw _ (by assumption) hr fun z p3 hz hp3 => ?_) | ((with_reducible refine sl_full ?ha ?_); (case ha => exact gA)) | ((with_reducible refine Ob.intro ?ha ?_); (case ha => exact gC)) | ((with_reducible refine br_lt ?_)) | ((with_reducible refine br_lf ?_)) | ((with_reducible refine br_pos ?ha ?_); (case ha => exact gB)) | ((with_reducible refine br_neg ?ha ?_); (case ha => exact gB)) | ((with_reducible refine br_t ?ha ?_); (case ha => with_reducible assumption)) | ((with_reducible refine br_f ?ha ?_); (case ha => with_reducible assumption)) | ((with_reducible refine br_dec (fun h => ?_) (fun h => ?_))) | ((with_reducible refine br_not ?_)) | ((with_reducible refine br_b (fun h => ?_) (fun h => ?_))) | ((with_reducible refine wr_i64 rfl ?ha ?hb ?_); (case ha => exact gB); (case hb => exact gB)) | ((with_reducible refine wr_u64 rfl ?ha ?hb ?_); (case ha => exact gB); (case hb => exact gB)) | ((with_reducible refine wr_u32 rfl ?ha ?hb ?_); (case ha => exact gB); (case hb => exact gB)) | ((with_reducible refine And.intro ?_ ?_)) | ((with_reducible refine True.intro)) | ((with_reducible refine Stp.go ?_))))); (all_goals (conv => whnf))
    all_goals
      refine ⟨(p3, i + 1), ⟨hp3, by simp only; omega⟩, by simp only; omega, ?_⟩
      simp only
      (refine Le.auto ?_; repeat' ((conv => whnf); first | with_reducible refine And.intro ?_ ?_ | with_reducible exact True.intro | rfl))
  · (all_goals (repeat' ((conv => whnf); first | (with_reducible refine cnHuge x ?_) | (with_reducible refine cplans _ ?_) | (with_reducible refine csane ?_) | ((with_reducible refine sl_full ?ha ?_); (case ha => exact gA)) | ((with_reducible refine Ob.intro ?ha ?_); (case ha => exact gC)) | ((with_reducible refine br_lt ?_)) | ((with_reducible refine br_lf ?_)) | ((with_reducible refine br_pos ?ha ?_); (case ha => exact gB)) | ((with_reducible refine br_neg ?ha ?_); (case ha => exact gB)) | ((with_reducible refine br_t ?ha ?_); (case ha => with_reducible assumption)) | ((with_reducible refine br_f ?ha ?_); (case ha => with_reducible assumption)) | ((with_reducible refine br_dec (fun h => ?_) (fun h => ?_))) | ((with_reducible refine br_not ?_)) | ((with_reducible refine br_b (fun h => ?_) (fun h => ?_))) | ((with_reducible refine wr_i64 rfl ?ha ?hb ?_); (case ha => exact gB); (case hb => exact gB)) | ((with_reducible refine wr_u64 rfl ?ha ?hb ?_); (case ha => exact gB); (case hb => exact gB)) | ((with_reducible refine wr_u32 rfl ?ha ?hb ?_); (case ha => exact gB); (case hb => exact gB)) | ((with_reducible refine And.intro ?_ ?_)) | ((with_reducible refine True.intro)) | ((with_reducible refine Stp.go ?_))))); (all_goals (conv => whnf))
    · exact yes_v
    · exact yes_sb rfl
end Go.Proofs.YtgcplfplbcpemaaGreat

set_option linter.unusedVariables false
set_option maxRecDepth 100000
namespace Go.Proofs.YtgcplfplbcpemaaGreat
open Go Go.Vm Go.ChangeShapes Go.WideShapes Go.ChangeAt Go.RowKit

theorem addressingPlans_lifted (os : Os) (started : os.Started) (H : Type) (enc : TypeId × Value → H) :
    ReturnsInHanded {} Tryz.checked os 3 .any (Rows.addressingPlansSpec.pre6 enc Tryz.prog Tryz.f3 Rows.addressingPlansRow.domain false) (Rows.addressingPlansSpec.post enc Tryz.prog Tryz.f3 false true false false) := by
  refine returnsInHanded_of_change (C := Tryz.checked) ownNone started (by kernel_rfl) Tryz.func3
    (ChangeSpec.witness6 (enc := enc) (C := Tryz.checked) false ⟨#[], #[.slice none 0 0, .agg #[.slice none 0 0, .slice none 0 0, .slice none 0 0, .slice none 0 0, .int .i64 0]], []⟩ 8 (by kernel_rfl) (by kernel_rfl) (by kernel_rfl) (by kernel_rfl)) ?_
  intro W base args ds gs before hval hW _ _
  refine law_contract (P := Tryz.prog) (t := 4) (d := 6) laidOut (by kernel_rfl) (by kernel_rfl) rfl rfl (by kernel_rfl) (fun ds hds => ?_) (fun xs hxs => ?_) hval hW
  · match ds, hds with
    | [d0, d1], _ => rfl
  · match xs, hxs with
    | [a0, a1], ⟨h0, h1, _⟩ =>
      obtain ⟨raw0, rfl, hr0⟩ := ty_is (d := 4) h0
      obtain ⟨t1, rfl⟩ := ty_tp (d := 1) h1
      exact cPlans raw0 t1 hr0

theorem addressingPlans_holds : Rows.AddressingPlansSaid :=
  OpenClaim.holds_of_wide 3 Tryz.f3 rfl rfl rfl rfl rfl rfl rfl ⟨rfl, rfl, rfl, rfl, rfl⟩ rfl rfl rfl rfl rfl (by kernel_rfl) Tryz.func3 (by kernel_rfl)
    (of_decide_eq_true (by kernel_rfl)) (by unfold Func.isWrapper; first | (rw [if_pos (by decide +kernel)]; kernel_rfl) | (rw [if_neg (by decide +kernel)]; exact ⟨rfl, rfl⟩))
    (fun os started H enc _ => addressingPlans_lifted os started H enc)

#print axioms addressingPlans_holds
end Go.Proofs.YtgcplfplbcpemaaGreat

