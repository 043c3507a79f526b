/- Lowest: the plain law. AddressingLowest: its contract. No planned edge could have a lower prefix while all edges that were served before it keep theirs: the statement AddressingLowestSaid holds, for every input, without a condition. -/
import Derived.Test.YtgcplfplbcpemaaGreatM13
set_option linter.unusedVariables false
set_option linter.unusedSimpArgs false
set_option maxRecDepth 20000
namespace Go.Proofs.YtgcplfplbcpemaaGreat
open Go Go.Vm

theorem planGo_other : ∀ {r : List Nat} {es : List Ed} {sp : List Rg} {fs : List Ed}, planGo r es sp = some fs → ∀ {j : Nat}, j ∉ r → fs[j]? = es[j]?
  | [], es, sp, fs, h, j, _ => by rw [planGo] at h; cases h; rfl
  | i :: r, es, sp, fs, h, j, hj => by
    rw [planGo] at h
    split at h
    · cases h
    · rename_i e he
      split at h
      · cases h
      · rename_i a ha
        rw [planGo_other h (fun hm => hj (List.mem_cons_of_mem _ hm)), setE_other (fun e => hj (by rw [e]; exact List.mem_cons_self))]
/-- the state in which edge i was served -/
theorem planGo_at {t : Tp} : ∀ {r : List Nat} {es : List Ed} {sp : List Rg} {fs : List Ed}, PInv t es sp → r.Pairwise (SO t) → (∀ j, j ∈ r → es[j]? = t.edges[j]? ∧ ∃ e, t.edges[j]? = some e ∧ e.pl = true) → planGo r es sp = some fs →
    ∀ i e0, i ∈ r → t.edges[i]? = some e0 → ∃ es' sp' a, PInv t es' sp' ∧ (∀ j, (j ∈ r ∧ (j = i ∨ SO t i j)) → es'[j]? = t.edges[j]?) ∧ (∀ j, ¬ (j ∈ r ∧ (j = i ∨ SO t i j)) → es'[j]? = fs[j]?) ∧
      lowest sp' (pz e0.pf.bits) = some a ∧ fs[i]? = some { e0 with pf := mkPf a e0.pf.bits, pl := false }
  | [], es, sp, fs, hp, hs, ho, h, i, e0, hi, he0 => by simp at hi
  | k :: r, es, sp, fs, hp, hs, ho, h, i, e0, hi, he0 => by
    have hall := h
    rw [planGo] at h
    split at h
    · cases h
    · rename_i e he
      split at h
      · cases h
      · rename_i a ha
        obtain ⟨hs1, hs2⟩ := List.pairwise_cons.1 hs
        obtain ⟨o1, e1, o2, o3⟩ := ho k List.mem_cons_self
        rw [he, o2] at o1; cases o1
        obtain ⟨p1, p2, p3⟩ := hp.step he o3 ha
        have hkr : k ∉ r := fun hm => so_irr (hs1 k hm)
        rcases List.mem_cons.1 hi with rfl | hi
        · rw [o2] at he0; cases he0
          refine ⟨es, sp, a, hp, fun j hj => (ho j hj.1).1, fun j hj => ?_, ha, ?_⟩
          · refine (planGo_other hall fun hm => hj ⟨hm, ?_⟩).symm
            rcases List.mem_cons.1 hm with h1 | h1
            · exact .inl h1
            · exact .inr (hs1 j h1)
          · rw [planGo_other h hkr, p2]
        · have hne : ∀ j, j ∈ r → j ≠ k := fun j hj e => hkr (e ▸ hj)
          obtain ⟨es', sp', a', q1, q2, q3, q4, q5⟩ := planGo_at p1 hs2 (fun j hj => by
            rw [setE_other (hne j hj)]
            exact ho j (List.mem_cons_of_mem _ hj)) h i e0 hi he0
          have hki : ¬ (k = i ∨ SO t i k) := by
            rintro (h1 | h1)
            · exact hkr (h1 ▸ hi)
            · exact so_irr (so_trans h1 (hs1 i hi))
          refine ⟨es', sp', a', q1, fun j hj => ?_, fun j hj => ?_, q4, q5⟩
          · rcases List.mem_cons.1 hj.1 with h1 | h1
            · subst h1; exact absurd hj.2 hki
            · exact q2 j ⟨h1, hj.2⟩
          · exact q3 j fun hh => hj ⟨List.mem_cons_of_mem _ hh.1, hh.2⟩
/-- later or the same in the order of service -/
def laterB (e0 e : Ed) (i j : Nat) : Bool := decide (e.pf.bits > e0.pf.bits) || (decide (e.pf.bits = e0.pf.bits) && decide (i ≤ j))
/-- an edge as it was when edge i was served -/
def backE (xs ys : List Ed) (i j : Nat) : Option Ed := match xs[i]?, xs[j]? with
  | some e0, some e => if e.pl = true ∧ laterB e0 e i j = true then some e else ys[j]?
  | _, _ => ys[j]?
theorem lowest_law {t : Tp} (ht : TopOk t) {fs : List Ed} (hf : planOf t = some fs) {i : Nat} {e0 : Ed} (hi : t.edges[i]? = some e0) (hpl : e0.pl = true) {z : List Ed} (hz : ∀ j, z[j]? = backE t.edges fs i j) :
    ∃ sp a, PInv t z sp ∧ lowest sp (pz e0.pf.bits) = some a ∧ fs[i]? = some { e0 with pf := mkPf a e0.pf.bits, pl := false } ∧ 0 ≤ a ∧ a ≤ 4294967295 := by
  have ho : i ∈ ordOf t := ordOf_mem.2 ⟨e0, hi, hpl⟩
  obtain ⟨es, sp, a, q1, q2, q3, q4, q5⟩ := planGo_at (pinv_start ht) (ordOf_so t) (fun j hj => ⟨rfl, ordOf_mem.1 hj⟩) hf i e0 ho hi
  have hze : z = es := by
    apply List.ext_getElem?
    intro j
    rw [hz, backE, hi]
    have hlat : ∀ e, t.edges[j]? = some e → e.pl = true → (laterB e0 e i j = true ↔ (j = i ∨ SO t i j)) := fun e he hp => by
      have b1 : bitsAt t i = e0.pf.bits := by simp [bitsAt, hi]
      have b2 : bitsAt t j = e.pf.bits := by simp [bitsAt, he]
      simp only [laterB, SO, b1, b2, Bool.or_eq_true, Bool.and_eq_true, decide_eq_true_eq]
      constructor
      · intro h; omega
      · rintro (h | h)
        · subst h; rw [hi] at he; cases he; omega
        · omega
    cases hj : t.edges[j]? with
    | none =>
      simp only
      exact (q3 j fun h => by obtain ⟨e, he, _⟩ := ordOf_mem.1 h.1; rw [hj] at he; cases he).symm
    | some e =>
      simp only
      split
      · rename_i h
        rw [q2 j ⟨ordOf_mem.2 ⟨e, hj, h.1⟩, (hlat e hj h.1).1 h.2⟩, hj]
      · rename_i h
        refine (q3 j fun hh => h ?_).symm
        obtain ⟨e', he', hp'⟩ := ordOf_mem.1 hh.1
        rw [hj] at he'; cases he'
        exact ⟨hp', (hlat e hj hp').2 hh.2⟩
  subst hze
  have hn := pz_pos e0.pf.bits
  obtain ⟨r, hr, r1, r2, r3⟩ := lowest_in hn q4
  have c0 := r.l0; have c1 := r.h1
  exact ⟨sp, a, q1, q4, q5, by omega, by omega⟩
def backL (xs ys : List Ed) (i : Nat) : List Ed := ys.mapIdx fun j y => match xs[i]?, xs[j]? with
  | some e0, some e => if e.pl = true ∧ laterB e0 e i j = true then e else y
  | _, _ => y
theorem backL_len {xs ys : List Ed} {i : Nat} : (backL xs ys i).length = ys.length := by rw [backL, List.length_mapIdx]
theorem backL_get {xs ys : List Ed} {i : Nat} (h : ys.length = xs.length) (j : Nat) : (backL xs ys i)[j]? = backE xs ys i j := by
  rw [backL, List.getElem?_mapIdx, backE]
  cases hx : xs[j]? with
  | none =>
    have hy : ys[j]? = none := List.getElem?_eq_none (by have := List.getElem?_eq_none_iff.1 hx; omega)
    rw [hy]
    cases xs[i]? <;> rfl
  | some e =>
    obtain ⟨y, hy⟩ : ∃ y, ys[j]? = some y := ⟨_, List.getElem?_eq_getElem (by have := (List.getElem?_eq_some_iff.1 hx).1; omega)⟩
    rw [hy]
    cases xs[i]? with
    | none => rfl
    | some e0 =>
      simp only [Option.map_some]
      split <;> rfl
theorem step_set {α : Type} {L es : List α} {j : Nat} {v : α} (h : L.length = es.length) (hj : L[j]? = some v) : (L.take j ++ es.drop j).set j v = L.take (j + 1) ++ es.drop (j + 1) := by
  have hl := (List.getElem?_eq_some_iff.1 hj).1
  have hd : ∃ y, es.drop j = y :: es.drop (j + 1) := ⟨es[j]'(by omega), List.drop_eq_getElem_cons (by omega)⟩
  obtain ⟨y, hd⟩ := hd
  rw [hd, List.set_append_right _ _ (by rw [List.length_take]; omega), List.length_take, Nat.min_eq_left (by omega), Nat.sub_self, List.set_cons_zero, List.take_add_one, hj, List.append_assoc]
  rfl
theorem step_same {α : Type} {L es : List α} {j : Nat} {v : α} (h : L.length = es.length) (hj : L[j]? = some v) (hv : es[j]? = some v) : L.take j ++ es.drop j = L.take (j + 1) ++ es.drop (j + 1) := by
  rw [← step_set h hj]
  apply List.ext_getElem?
  intro k
  by_cases hk : j = k
  · subst hk
    have hl := (List.getElem?_eq_some_iff.1 hj).1
    have ht : (L.take j).length = j := by rw [List.length_take]; omega
    rw [List.getElem?_set_self (by rw [List.length_append, ht, List.length_drop]; omega), List.getElem?_append_right (by omega), ht, Nat.sub_self, List.getElem?_drop, Nat.add_zero, hv]
  · rw [List.getElem?_set_ne hk]
theorem pz_dvd {a b : Int} (hb : b ≤ 32) (h : a ≤ b) : pz b ∣ pz a := by
  unfold pz
  exact Int.natCast_dvd_natCast.2 (Nat.pow_dvd_pow 2 (by omega))
/-- no free prefix that holds such a block is lower -/
theorem lowest_free {t : Tp} {z : List Ed} {sp : List Rg} (hz : PInv t z sp) {a : Int} {B : Int} (hB0 : 0 ≤ B) (hB : B ≤ 32) (ha : lowest sp (pz B) = some a) {p : Pf} (hp : p ∈ freePf { t with edges := z }) (hb : p.bits ≤ B) : a ≤ p.addr := by
  rw [freePf] at hp
  split at hp
  · rename_i htb
    simp only [hz.free] at hp
    obtain ⟨r, hr, hpr⟩ := List.mem_flatMap.1 hp
    have hle := hz.can.1 r hr
    have b0 := r.l0; have b1 := r.l1; have b2 := r.h0; have b3 := r.h1
    obtain ⟨lo, hlo⟩ := Int.eq_ofNat_of_zero_le b0
    obtain ⟨hi, hhi⟩ := Int.eq_ofNat_of_zero_le b2
    have hs : splitR r = (blksOf lo (hi + 1)).map fun b => mkPf b.1 (32 - (b.2 : Int)) := by rw [splitR, hlo, hhi]; rfl
    rw [hs] at hpr
    obtain ⟨b, hbm, rfl⟩ := List.mem_map.1 hpr
    have hmem := blks_mem (hi + 1 - lo) lo (hi + 1)
    rw [← blksOf] at hmem
    obtain ⟨m1, m2, m3, m4⟩ := hmem b hbm
    have hp2 := Nat.two_pow_pos b.2
    rw [mkPf_bits] at hb
    rw [mkPf_addr (by omega) (by omega)]
    have hpz : pz (32 - (b.2 : Int)) = ((2 ^ b.2 : Nat) : Int) := by unfold pz; rw [show (32 - (32 - (b.2 : Int))).toNat = b.2 by omega]
    have hdv := pz_dvd hB hb
    rw [hpz] at hdv
    have hle2 : pz B ≤ ((2 ^ b.2 : Nat) : Int) := Int.le_of_dvd (by omega) hdv
    refine lowest_min hz.can (pz_pos B) ha ?_ fun v v1 v2 => has_iff.2 ⟨r, hr, ?_, ?_⟩
    · have : ((2 ^ b.2 : Nat) : Int) ∣ (b.1 : Int) := Int.natCast_dvd_natCast.2 (Nat.dvd_of_mod_eq_zero m3)
      exact Int.emod_eq_zero_of_dvd (Int.dvd_trans hdv this)
    · omega
    · omega
  · simp at hp
end Go.Proofs.YtgcplfplbcpemaaGreat

set_option linter.unusedVariables false
set_option linter.unusedSimpArgs false
set_option maxRecDepth 20000
set_option maxHeartbeats 4000000
namespace Go.Proofs.YtgcplfplbcpemaaGreat
open Go Go.Vm

/-- AddressingLowest -/
theorem cLowest (raw : List Int) (hr : raw.length ≤ 9223372036854775807) : ACall Tryz.prog 4 [.lst (raw.map encI)] [] Yes := by
  refine ACall.bool (oflLow rfl rfl ?_)
  (all_goals (repeat' ((conv => whnf); first | (with_reducible refine c9 raw ?_) | (with_reducible refine cnPla3 raw _ (by omega) hr fun x p1 hg hp1 => ?_) | ((with_reducible refine sl_full ?ha ?_); (case ha => exact gA)) | ((with_reducible refine Ob.intro ?ha ?_); (case ha => exact gC)) | ((with_reducible refine br_lt ?_)) | ((with_reducible refine br_lf ?_)) | ((with_reducible refine br_pos ?ha ?_); (case ha => exact gB)) | ((with_reducible refine br_neg ?ha ?_); (case ha => exact gB)) | ((with_reducible refine br_t ?ha ?_); (case ha => with_reducible assumption)) | ((with_reducible refine br_f ?ha ?_); (case ha => with_reducible assumption)) | ((with_reducible refine br_dec (fun h => ?_) (fun h => ?_))) | ((with_reducible refine br_not ?_)) | ((with_reducible refine br_b (fun h => ?_) (fun h => ?_))) | ((with_reducible refine wr_i64 rfl ?ha ?hb ?_); (case ha => exact gB); (case hb => exact gB)) | ((with_reducible refine wr_u64 rfl ?ha ?hb ?_); (case ha => exact gB); (case hb => exact gB)) | ((with_reducible refine wr_u32 rfl ?ha ?hb ?_); (case ha => exact gB); (case hb => exact gB)) | ((with_reducible refine And.intro ?_ ?_)) | ((with_reducible refine True.intro)) | ((with_reducible refine Stp.go ?_))))); (all_goals (conv => whnf))
  have ht := topOk_pla hg
  have hb1 := ht.d1; have hb2 := ht.l1; have hb3 := ht.e1; have hb4 := ht.p1
  rcases hpo : planOf x with _ | es
  · have hpl : ∀ (K : AV → List Vm.Obj → Prop), K (.tup [encT noTop, .v (.int .i64 9)]) [] → ACall Tryz.prog 12 [encT x] [] K := fun K h => cplan x (by rw [planT, planE, topB_true ht, hpo]; exact h)
    (all_goals (repeat' ((conv => whnf); first | (with_reducible refine hpl _ ?_) | (with_reducible refine csane ?_) | ((with_reducible refine sl_full ?ha ?_); (case ha => exact gA)) | ((with_reducible refine Ob.intro ?ha ?_); (case ha => exact gC)) | ((with_reducible refine br_lt ?_)) | ((with_reducible refine br_lf ?_)) | ((with_reducible refine br_pos ?ha ?_); (case ha => exact gB)) | ((with_reducible refine br_neg ?ha ?_); (case ha => exact gB)) | ((with_reducible refine br_t ?ha ?_); (case ha => with_reducible assumption)) | ((with_reducible refine br_f ?ha ?_); (case ha => with_reducible assumption)) | ((with_reducible refine br_dec (fun h => ?_) (fun h => ?_))) | ((with_reducible refine br_not ?_)) | ((with_reducible refine br_b (fun h => ?_) (fun h => ?_))) | ((with_reducible refine wr_i64 rfl ?ha ?hb ?_); (case ha => exact gB); (case hb => exact gB)) | ((with_reducible refine wr_u64 rfl ?ha ?hb ?_); (case ha => exact gB); (case hb => exact gB)) | ((with_reducible refine wr_u32 rfl ?ha ?hb ?_); (case ha => exact gB); (case hb => exact gB)) | ((with_reducible refine And.intro ?_ ?_)) | ((with_reducible refine True.intro)) | ((with_reducible refine Stp.go ?_))))); (all_goals (conv => whnf))
    exact yes_sb rfl
  · have hpl : ∀ (K : AV → List Vm.Obj → Prop), K (.tup [encT { x with edges := es }, .v (.int .i64 0)]) [] → ACall Tryz.prog 12 [encT x] [] K := fun K h => cplan x (by rw [planT, planE, topB_true ht, hpo]; exact h)
    obtain ⟨hv, hf, hlen, hat⟩ := plan_valid ht hpo
    have hcopy : ∀ {K : AV → List Vm.Obj → Prop}, K (.agg [.os 0 5 0 x.devs.length, .os 1 3 0 x.links.length, .os 2 6 0 es.length, .os 3 2 0 x.pools.length, .v (.int .i64 x.tol)]) [.arr 5 (x.devs.map encD), .arr 3 (x.links.map encL), .arr 6 (es.map encE), .arr 2 (x.pools.map encP)] →
        ACall Tryz.prog 13 [.agg [.lst (x.devs.map encD), .lst (x.links.map encL), .lst (es.map encE), .lst (x.pools.map encP), .v (.int .i64 x.tol)]] [] K := fun h => cnCopy { x with edges := es } (by simp only; omega) h
    (all_goals (repeat' ((conv => whnf); first | (with_reducible refine hpl _ ?_) | ((with_reducible refine sl_full ?ha ?_); (case ha => exact gA)) | ((with_reducible refine Ob.intro ?ha ?_); (case ha => exact gC)) | ((with_reducible refine br_lt ?_)) | ((with_reducible refine br_lf ?_)) | ((with_reducible refine br_pos ?ha ?_); (case ha => exact gB)) | ((with_reducible refine br_neg ?ha ?_); (case ha => exact gB)) | ((with_reducible refine br_t ?ha ?_); (case ha => with_reducible assumption)) | ((with_reducible refine br_f ?ha ?_); (case ha => with_reducible assumption)) | ((with_reducible refine br_dec (fun h => ?_) (fun h => ?_))) | ((with_reducible refine br_not ?_)) | ((with_reducible refine br_b (fun h => ?_) (fun h => ?_))) | ((with_reducible refine wr_i64 rfl ?ha ?hb ?_); (case ha => exact gB); (case hb => exact gB)) | ((with_reducible refine wr_u64 rfl ?ha ?hb ?_); (case ha => exact gB); (case hb => exact gB)) | ((with_reducible refine wr_u32 rfl ?ha ?hb ?_); (case ha => exact gB); (case hb => exact gB)) | ((with_reducible refine And.intro ?_ ?_)) | ((with_reducible refine True.intro)) | ((with_reducible refine Stp.go ?_))))); (all_goals (conv => whnf))
    refine Lp.intro Nat (fun k => ⟨2, [(0, boxT x), (1, boxT { x with edges := es })], [(4, .op 0 0), (5, .op 1 0), (7, .v (.int .i64 k))]⟩) (fun k => k ≤ x.edges.length) (fun k => x.edges.length - k) 0 (Nat.zero_le _) ?_ ?_
    · (refine Le.auto ?_; repeat' ((conv => whnf); first | with_reducible refine And.intro ?_ ?_ | with_reducible exact True.intro | rfl))
    intro i hi
    rcases Nat.lt_or_ge i x.edges.length with hlt | hge
    · obtain ⟨e0, he0⟩ : ∃ e, x.edges[i]? = some e := ⟨_, List.getElem?_eq_getElem hlt⟩
      (all_goals (repeat' ((conv => whnf); first | (with_reducible refine in_map hlt ?_) | (with_reducible refine ix_map he0 ?_) | (with_reducible refine hcopy ?_) | ((with_reducible refine sl_full ?ha ?_); (case ha => exact gA)) | ((with_reducible refine Ob.intro ?ha ?_); (case ha => exact gC)) | ((with_reducible refine br_lt ?_)) | ((with_reducible refine br_lf ?_)) | ((with_reducible refine br_pos ?ha ?_); (case ha => exact gB)) | ((with_reducible refine br_neg ?ha ?_); (case ha => exact gB)) | ((with_reducible refine br_t ?ha ?_); (case ha => with_reducible assumption)) | ((with_reducible refine br_f ?ha ?_); (case ha => with_reducible assumption)) | ((with_reducible refine br_dec (fun h => ?_) (fun h => ?_))) | ((with_reducible refine br_not ?_)) | ((with_reducible refine br_b (fun h => ?_) (fun h => ?_))) | ((with_reducible refine wr_i64 rfl ?ha ?hb ?_); (case ha => exact gB); (case hb => exact gB)) | ((with_reducible refine wr_u64 rfl ?ha ?hb ?_); (case ha => exact gB); (case hb => exact gB)) | ((with_reducible refine wr_u32 rfl ?ha ?hb ?_); (case ha => exact gB); (case hb => exact gB)) | ((with_reducible refine And.intro ?_ ?_)) | ((with_reducible refine True.intro)) | ((with_reducible refine Stp.go ?_))))); (all_goals (conv => whnf))
      · have hpl0 : e0.pl = true := by assumption
        have hLl := backL_len (xs := x.edges) (ys := es) (i := i)
        have hLg := backL_get (xs := x.edges) (ys := es) (i := i) hlen
        generalize backL x.edges es i = L at hLl hLg
        refine Lp.intro Nat (fun k => ⟨7, [(0, boxT x), (1, boxT ⟨x.devs, x.links, es, x.pools, x.tol⟩), (2, boxX x.devs.length x.links.length es.length x.pools.length x.tol), (3, .arr 5 (x.devs.map encD)), (4, .arr 3 (x.links.map encL)), (5, .arr 6 ((L.take k ++ es.drop k).map encE)), (6, .arr 2 (x.pools.map encP))], [(4, .op 0 0), (5, .op 1 0), (7, .v (.int .i64 i)), (8, .op 2 0), (9, .v (.int .i64 k))]⟩)
          (fun k => k ≤ x.edges.length) (fun k => x.edges.length - k) 0 (Nat.zero_le _) ?_ ?_
        · rw [List.take_zero, List.drop_zero, List.nil_append]
          (refine Le.auto ?_; repeat' ((conv => whnf); first | with_reducible refine And.intro ?_ ?_ | with_reducible exact True.intro | rfl))
        intro k hk
        rcases Nat.lt_or_ge k x.edges.length with hkl | hkl
        · obtain ⟨e, he⟩ : ∃ e, x.edges[k]? = some e := ⟨_, List.getElem?_eq_getElem hkl⟩
          have hkl2 : k < es.length := by omega
          obtain ⟨y, hy⟩ : ∃ y, es[k]? = some y := ⟨_, List.getElem?_eq_getElem hkl2⟩
          have hLk := hLg k
          rw [backE, he0, he] at hLk
          simp only at hLk
          have htl : (L.take k).length = k := by rw [List.length_take]; omega
          have hcur : (L.take k ++ es.drop k)[0 + k]? = some y := by
            rw [Nat.zero_add, List.getElem?_append_right (by omega), htl, Nat.sub_self, List.getElem?_drop, Nat.add_zero, hy]
          have hset : (e.pl = true ∧ laterB e0 e i k = true) → ((L.take k ++ es.drop k).map encE).set (0 + k) (.agg [.v (.string e.name), .v (.int .i64 e.dev), .v (.string e.zone), .v (.int .u32 e.pf.addr), .v (.int .i64 e.pf.bits), .sb e.pl]) = (L.take (k + 1) ++ es.drop (k + 1)).map encE := fun hc => by
            rw [if_pos hc] at hLk
            rw [← step_set hLl hLk, List.map_set, Nat.zero_add]
          have hsame : ¬ (e.pl = true ∧ laterB e0 e i k = true) → L.take k ++ es.drop k = L.take (k + 1) ++ es.drop (k + 1) := fun hc => by
            rw [if_neg hc] at hLk
            exact step_same hLl (hLk.trans hy) hy
          have hlat : laterB e0 e i k = true ↔ (e0.pf.bits < e.pf.bits ∨ (e.pf.bits = e0.pf.bits ∧ i ≤ k)) := by simp only [laterB, Bool.or_eq_true, Bool.and_eq_true, decide_eq_true_eq, gt_iff_lt]
          rw [hlat] at hset hsame
          clear hLk hlat hat hpl hcopy
          (all_goals (repeat' ((conv => whnf); first | (with_reducible refine in_map hkl ?_) | (with_reducible refine in_map hlt ?_) | (with_reducible refine ix_map he ?_) | (with_reducible refine ix_map he0 ?_) | (with_reducible refine in_nat hkl2 ?_) | (with_reducible refine ix_map hcur ?_) | ((with_reducible refine sl_full ?ha ?_); (case ha => exact gA)) | ((with_reducible refine Ob.intro ?ha ?_); (case ha => exact gC)) | ((with_reducible refine br_lt ?_)) | ((with_reducible refine br_lf ?_)) | ((with_reducible refine br_pos ?ha ?_); (case ha => exact gB)) | ((with_reducible refine br_neg ?ha ?_); (case ha => exact gB)) | ((with_reducible refine br_t ?ha ?_); (case ha => with_reducible assumption)) | ((with_reducible refine br_f ?ha ?_); (case ha => with_reducible assumption)) | ((with_reducible refine br_dec (fun h => ?_) (fun h => ?_))) | ((with_reducible refine br_not ?_)) | ((with_reducible refine br_b (fun h => ?_) (fun h => ?_))) | ((with_reducible refine wr_i64 rfl ?ha ?hb ?_); (case ha => exact gB); (case hb => exact gB)) | ((with_reducible refine wr_u64 rfl ?ha ?hb ?_); (case ha => exact gB); (case hb => exact gB)) | ((with_reducible refine wr_u32 rfl ?ha ?hb ?_); (case ha => exact gB); (case hb => exact gB)) | ((with_reducible refine And.intro ?_ ?_)) | ((with_reducible refine True.intro)) | ((with_reducible refine Stp.go ?_))))); (all_goals (conv => whnf))
          all_goals
            refine ⟨k + 1, by omega, by omega, ?_⟩
            first
              | (rw [← hset ⟨by assumption, by omega⟩]; (refine Le.auto ?_; repeat' ((conv => whnf); first | with_reducible refine And.intro ?_ ?_ | with_reducible exact True.intro | rfl)))
              | (rw [← hsame (by rintro ⟨q1, q2⟩; first | omega | simp_all)]; (refine Le.auto ?_; repeat' ((conv => whnf); first | with_reducible refine And.intro ?_ ?_ | with_reducible exact True.intro | rfl)))
        · have hfull : L.take k ++ es.drop k = L := by rw [List.take_of_length_le (by omega), List.drop_of_length_le (by omega), List.append_nil]
          rw [hfull]
          obtain ⟨sp, a, z1, z2, z3, z4, z5⟩ := lowest_law ht hpo he0 hpl0 hLg
          have hbt := okP_bits (ht.edge i e0 he0).1.2.2.2.2.2.1
          have hfree : ∀ {K : AV → List Vm.Obj → Prop}, K (.lst ((freePf { x with edges := L }).map encP)) [] → ACall Tryz.prog 14 [.agg [.lst (x.devs.map encD), .lst (x.links.map encL), .lst (L.map encE), .lst (x.pools.map encP), .v (.int .i64 x.tol)]] [] K := fun h => cwFreeP { x with edges := L } h
          have hlow : ∀ p, p ∈ freePf { x with edges := L } → p.bits ≤ e0.pf.bits → a ≤ p.addr := fun p hp hb => lowest_free z1 hbt.1 hbt.2 z2 hp hb
          have hsm := freePf_small { x with edges := L }
          clear hat hpl hcopy
          (all_goals (repeat' ((conv => whnf); first | (with_reducible refine in_map hlt ?_) | (with_reducible refine hfree ?_) | ((with_reducible refine sl_full ?ha ?_); (case ha => exact gA)) | ((with_reducible refine Ob.intro ?ha ?_); (case ha => exact gC)) | ((with_reducible refine br_lt ?_)) | ((with_reducible refine br_lf ?_)) | ((with_reducible refine br_pos ?ha ?_); (case ha => exact gB)) | ((with_reducible refine br_neg ?ha ?_); (case ha => exact gB)) | ((with_reducible refine br_t ?ha ?_); (case ha => with_reducible assumption)) | ((with_reducible refine br_f ?ha ?_); (case ha => with_reducible assumption)) | ((with_reducible refine br_dec (fun h => ?_) (fun h => ?_))) | ((with_reducible refine br_not ?_)) | ((with_reducible refine br_b (fun h => ?_) (fun h => ?_))) | ((with_reducible refine wr_i64 rfl ?ha ?hb ?_); (case ha => exact gB); (case hb => exact gB)) | ((with_reducible refine wr_u64 rfl ?ha ?hb ?_); (case ha => exact gB); (case hb => exact gB)) | ((with_reducible refine wr_u32 rfl ?ha ?hb ?_); (case ha => exact gB); (case hb => exact gB)) | ((with_reducible refine And.intro ?_ ?_)) | ((with_reducible refine True.intro)) | ((with_reducible refine Stp.go ?_))))); (all_goals (conv => whnf))
          generalize freePf { x with edges := L } = F at hlow hsm
          refine Lp.intro Nat (fun k => ⟨2, [(0, boxT x), (1, boxT ⟨x.devs, x.links, es, x.pools, x.tol⟩)], [(4, .op 0 0), (5, .op 1 0), (7, .v (.int .i64 i)), (11, .lst (F.map encP)), (12, .v (.int .i64 k))]⟩) (fun k => k ≤ F.length) (fun k => F.length - k) 0 (Nat.zero_le _) ?_ ?_
          · (refine Le.auto ?_; repeat' ((conv => whnf); first | with_reducible refine And.intro ?_ ?_ | with_reducible exact True.intro | rfl))
          intro k hk
          have hlt2 : i < es.length := by omega
          have z3' : (mkPf a e0.pf.bits).addr = a := mkPf_addr z4 z5
          rcases Nat.lt_or_ge k F.length with hkl | hkl
          · obtain ⟨p, hp⟩ : ∃ p, F[k]? = some p := ⟨_, List.getElem?_eq_getElem hkl⟩
            have hl2 := hlow p (List.mem_of_getElem? hp)
            (all_goals (repeat' ((conv => whnf); first | (with_reducible refine in_map hkl ?_) | (with_reducible refine in_map hlt ?_) | (with_reducible refine in_map hlt2 ?_) | (with_reducible refine ix_map hp ?_) | (with_reducible refine ix_map he0 ?_) | (with_reducible refine ix_map z3 ?_) | ((with_reducible refine sl_full ?ha ?_); (case ha => exact gA)) | ((with_reducible refine Ob.intro ?ha ?_); (case ha => exact gC)) | ((with_reducible refine br_lt ?_)) | ((with_reducible refine br_lf ?_)) | ((with_reducible refine br_pos ?ha ?_); (case ha => exact gB)) | ((with_reducible refine br_neg ?ha ?_); (case ha => exact gB)) | ((with_reducible refine br_t ?ha ?_); (case ha => with_reducible assumption)) | ((with_reducible refine br_f ?ha ?_); (case ha => with_reducible assumption)) | ((with_reducible refine br_dec (fun h => ?_) (fun h => ?_))) | ((with_reducible refine br_not ?_)) | ((with_reducible refine br_b (fun h => ?_) (fun h => ?_))) | ((with_reducible refine wr_i64 rfl ?ha ?hb ?_); (case ha => exact gB); (case hb => exact gB)) | ((with_reducible refine wr_u64 rfl ?ha ?hb ?_); (case ha => exact gB); (case hb => exact gB)) | ((with_reducible refine wr_u32 rfl ?ha ?hb ?_); (case ha => exact gB); (case hb => exact gB)) | ((with_reducible refine And.intro ?_ ?_)) | ((with_reducible refine True.intro)) | ((with_reducible refine Stp.go ?_))))); (all_goals (conv => whnf))
            all_goals first
              | (exfalso; have := hl2 (by assumption); rw [z3'] at *; omega)
              | (refine ⟨k + 1, by omega, by omega, ?_⟩
                 (refine Le.auto ?_; repeat' ((conv => whnf); first | with_reducible refine And.intro ?_ ?_ | with_reducible exact True.intro | rfl)))
          · (all_goals (repeat' ((conv => whnf); first | ((with_reducible refine sl_full ?ha ?_); (case ha => exact gA)) | ((with_reducible refine Ob.intro ?ha ?_); (case ha => exact gC)) | ((with_reducible refine br_lt ?_)) | ((with_reducible refine br_lf ?_)) | ((with_reducible refine br_pos ?ha ?_); (case ha => exact gB)) | ((with_reducible refine br_neg ?ha ?_); (case ha => exact gB)) | ((with_reducible refine br_t ?ha ?_); (case ha => with_reducible assumption)) | ((with_reducible refine br_f ?ha ?_); (case ha => with_reducible assumption)) | ((with_reducible refine br_dec (fun h => ?_) (fun h => ?_))) | ((with_reducible refine br_not ?_)) | ((with_reducible refine br_b (fun h => ?_) (fun h => ?_))) | ((with_reducible refine wr_i64 rfl ?ha ?hb ?_); (case ha => exact gB); (case hb => exact gB)) | ((with_reducible refine wr_u64 rfl ?ha ?hb ?_); (case ha => exact gB); (case hb => exact gB)) | ((with_reducible refine wr_u32 rfl ?ha ?hb ?_); (case ha => exact gB); (case hb => exact gB)) | ((with_reducible refine And.intro ?_ ?_)) | ((with_reducible refine True.intro)) | ((with_reducible refine Stp.go ?_))))); (all_goals (conv => whnf))
            refine ⟨i + 1, by omega, by omega, ?_⟩
            (refine Le.auto ?_; repeat' ((conv => whnf); first | with_reducible refine And.intro ?_ ?_ | with_reducible exact True.intro | rfl))
      · refine ⟨i + 1, by omega, by omega, ?_⟩
        (refine Le.auto ?_; repeat' ((conv => whnf); first | with_reducible refine And.intro ?_ ?_ | with_reducible exact True.intro | rfl))
    · (all_goals (repeat' ((conv => whnf); first | (with_reducible refine csane ?_) | ((with_reducible refine sl_full ?ha ?_); (case ha => exact gA)) | ((with_reducible refine Ob.intro ?ha ?_); (case ha => exact gC)) | ((with_reducible refine br_lt ?_)) | ((with_reducible refine br_lf ?_)) | ((with_reducible refine br_pos ?ha ?_); (case ha => exact gB)) | ((with_reducible refine br_neg ?ha ?_); (case ha => exact gB)) | ((with_reducible refine br_t ?ha ?_); (case ha => with_reducible assumption)) | ((with_reducible refine br_f ?ha ?_); (case ha => with_reducible assumption)) | ((with_reducible refine br_dec (fun h => ?_) (fun h => ?_))) | ((with_reducible refine br_not ?_)) | ((with_reducible refine br_b (fun h => ?_) (fun h => ?_))) | ((with_reducible refine wr_i64 rfl ?ha ?hb ?_); (case ha => exact gB); (case hb => exact gB)) | ((with_reducible refine wr_u64 rfl ?ha ?hb ?_); (case ha => exact gB); (case hb => exact gB)) | ((with_reducible refine wr_u32 rfl ?ha ?hb ?_); (case ha => exact gB); (case hb => exact gB)) | ((with_reducible refine And.intro ?_ ?_)) | ((with_reducible refine True.intro)) | ((with_reducible refine Stp.go ?_))))); (all_goals (conv => whnf))
      exact yes_sb rfl
end Go.Proofs.YtgcplfplbcpemaaGreat

set_option linter.unusedVariables false
set_option maxRecDepth 100000
namespace Go.Proofs.YtgcplfplbcpemaaGreat
open Go Go.Vm Go.ChangeShapes Go.WideShapes Go.ChangeAt Go.RowKit

theorem addressingLowest_lifted (os : Os) (started : os.Started) (H : Type) (enc : TypeId × Value → H) :
    ReturnsInHanded {} Tryz.checked os 4 .any (Rows.addressingLowestSpec.pre6 enc Tryz.prog Tryz.f4 Rows.addressingLowestRow.domain false) (Rows.addressingLowestSpec.post enc Tryz.prog Tryz.f4 false true false false) := by
  refine returnsInHanded_of_change (C := Tryz.checked) ownNone started (by kernel_rfl) Tryz.func4
    (ChangeSpec.witness6 (enc := enc) (C := Tryz.checked) false ⟨#[], #[.slice none 0 0], []⟩ 8 (by kernel_rfl) (by kernel_rfl) (by kernel_rfl) (by kernel_rfl)) ?_
  intro W base args ds gs before hval hW _ _
  refine law_contract (P := Tryz.prog) (t := 4) (d := 6) laidOut (by kernel_rfl) (by kernel_rfl) rfl rfl (by kernel_rfl) (fun ds hds => ?_) (fun xs hxs => ?_) hval hW
  · match ds, hds with
    | [d0], _ => rfl
  · match xs, hxs with
    | [a0], ⟨h0, _⟩ =>
      obtain ⟨raw0, rfl, hr0⟩ := ty_is (d := 4) h0
      exact cLowest raw0 hr0

theorem addressingLowest_holds : Rows.AddressingLowestSaid :=
  OpenClaim.holds_of_wide 4 Tryz.f4 rfl rfl rfl rfl rfl rfl rfl ⟨rfl, rfl, rfl, rfl, rfl⟩ rfl rfl rfl rfl rfl (by kernel_rfl) Tryz.func4 (by kernel_rfl)
    (of_decide_eq_true (by kernel_rfl)) (by unfold Func.isWrapper; first | (rw [if_pos (by decide +kernel)]; kernel_rfl) | (rw [if_neg (by decide +kernel)]; exact ⟨rfl, rfl⟩))
    (fun os started H enc _ => addressingLowest_lifted os started H enc)

#print axioms addressingLowest_holds
end Go.Proofs.YtgcplfplbcpemaaGreat

