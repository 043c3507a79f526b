/- Blocks of ranges: the program's and the reference's. What boxes cost. Placement as plain functions. What arguments look like: headers, policies, placed pairs. The generator: headers near a box. Placement as plain functions: edges, pairs. Parts of topologies compared; names that are literals. The generator: planned topologies. The generated topologies are valid. The sanity check of placement: what it computes. Generated topologies are complete. The functions of the seat as the machine takes them: contexts, bodies, contracts out of the code. Printed by gsctx.py. The functions of the seat as the machine takes them: contexts, bodies, contracts out of the code. Printed by gsctx.py. The functions of the seat as the machine takes them: contexts, bodies, contracts out of the code. Printed by gsctx.py. -/
import Derived.Test.YtokmdghjgegclaaGreatDoorProg
import Derived.Test.YtokmdghjgegclaaGreatDoorM13
set_option linter.unusedVariables false
set_option linter.unusedSimpArgs false
set_option maxRecDepth 20000
set_option maxHeartbeats 4000000
namespace Go.Proofs.YtokmdghjgegclaaGreatDoor
open Go Go.Vm

/-- the largest block at lo that is no larger than n -/
def blkK (lo n : Nat) : Nat → Nat
  | 0 => 0
  | k + 1 => if lo % 2 ^ (k + 1) = 0 ∧ 2 ^ (k + 1) ≤ n then k + 1 else blkK lo n k
theorem blkK_spec (lo n : Nat) (hn : 1 ≤ n) : ∀ k, blkK lo n k ≤ k ∧ lo % 2 ^ blkK lo n k = 0 ∧ 2 ^ blkK lo n k ≤ n
  | 0 => ⟨Nat.le_refl _, by simp [blkK, Nat.mod_one], by simpa [blkK] using hn⟩
  | k + 1 => by
    unfold blkK
    split
    · rename_i h; exact ⟨Nat.le_refl _, h.1, h.2⟩
    · have := blkK_spec lo n hn k; exact ⟨by omega, this.2⟩
theorem blkK_max (lo n : Nat) : ∀ (k j : Nat), j ≤ k → lo % 2 ^ j = 0 → 2 ^ j ≤ n → j ≤ blkK lo n k
  | 0, j, hj, _, _ => by omega
  | k + 1, j, hj, h1, h2 => by
    unfold blkK
    split
    · exact hj
    · rename_i hn
      rcases Nat.lt_or_ge k j with h | h
      · have : j = k + 1 := by omega
        subst this
        exact absurd ⟨h1, h2⟩ hn
      · exact blkK_max lo n k j h h1 h2
def blks : Nat → Nat → Nat → List (Nat × Nat)
  | 0, _, _ => []
  | f + 1, lo, e => if lo < e then (lo, blkK lo (e - lo) 32) :: blks f (lo + 2 ^ blkK lo (e - lo) 32) e else []
theorem blks_fuel : ∀ (f g lo e : Nat), e - lo ≤ f → e - lo ≤ g → blks f lo e = blks g lo e
  | 0, 0, _, _, _, _ => rfl
  | 0, g + 1, lo, e, h, _ => by rw [blks, blks, if_neg (by omega)]
  | f + 1, 0, lo, e, _, h => by rw [blks, blks, if_neg (by omega)]
  | f + 1, g + 1, lo, e, h1, h2 => by
    rw [blks, blks]
    split
    · have := Nat.two_pow_pos (blkK lo (e - lo) 32)
      rw [blks_fuel f g _ _ (by omega) (by omega)]
    · rfl
def blksOf (lo e : Nat) : List (Nat × Nat) := blks (e - lo) lo e
theorem blksOf_step {lo e : Nat} (h : lo < e) : blksOf lo e = (lo, blkK lo (e - lo) 32) :: blksOf (lo + 2 ^ blkK lo (e - lo) 32) e := by
  have := Nat.two_pow_pos (blkK lo (e - lo) 32)
  rw [blksOf, blksOf, show e - lo = (e - lo - 1) + 1 by omega, blks, if_pos h]
  rw [show e - lo - 1 + 1 = e - lo by omega]
  rw [blks_fuel (e - lo - 1) _ _ _ (by omega) (Nat.le_refl _)]
theorem blksOf_end {lo e : Nat} (h : e ≤ lo) : blksOf lo e = [] := by rw [blksOf, show e - lo = 0 by omega]; rfl
noncomputable abbrev encB (b : Nat × Nat) : AV := .agg [.v (.int .u32 (b.1 : Int)), .v (.int .u32 ((b.1 + 2 ^ b.2 - 1 : Nat) : Int))]
theorem sz_half {sz : Nat} : (sz : Int).tdiv 2 = ((sz / 2 : Nat) : Int) := rfl
theorem blkK_low {lo n w : Nat} (h : n < 2 ^ (w + 1)) : ∀ d, blkK lo n (w + d) = blkK lo n w
  | 0 => rfl
  | d + 1 => by
    rw [← Nat.add_assoc, blkK, if_neg, blkK_low h d]
    rintro ⟨_, h2⟩
    have := Nat.pow_le_pow_right (n := 2) (by omega) (show w + 1 ≤ w + d + 1 by omega)
    omega
theorem w_wrap {w : Nat} (hw : w = 32 ∨ w = 16 ∨ w = 8) : IntKind.u64.wrap (1 * 2 ^ min (Int.toNat (w : Int)) IntKind.u64.bits) = ((2 ^ w : Nat) : Int) := by
  rcases hw with rfl | rfl | rfl <;> decide
/-- prefix.Blocks -/
theorem cpBlocksW (w : Nat) (hw : w = 32 ∨ w = 16 ∨ w = 8) (lo hi : Nat) (h : lo ≤ hi) (h2 : hi < 2 ^ w) {K : AV → List Vm.Obj → Prop} (hK : K (.lst ((blksOf lo (hi + 1)).map encB)) []) :
    ACall Tryz.prog 187 [.agg [.v (.int .u32 (lo : Int)), .v (.int .u32 (hi : Int))], .v (.int .i64 w)] [] K := by
  refine ofpBlocks rfl rfl ?_
  have w32 := w_wrap hw
  have hw32 : w ≤ 32 := by omega
  have hP : 2 ^ w ≤ 4294967296 := Nat.pow_le_pow_right (n := 2) (by omega) hw32
  have hlow : ∀ at_, blkK at_ (hi + 1 - at_) 32 = blkK at_ (hi + 1 - at_) w := fun at_ => by
    have := blkK_low (lo := at_) (n := hi + 1 - at_) (w := w) (by rw [Nat.pow_succ]; omega) (32 - w)
    rwa [show w + (32 - w) = 32 by omega] at this
  have hPe : ∀ j, j = w → 2 ^ w = 2 ^ j := fun j h => by rw [h]
  generalize hPP : 2 ^ w = P at w32 h2 hP
  (all_goals (repeat' ((conv => whnf); first | (with_reducible refine wr_is w32 ?_)|((with_reducible refine sl_full ?_ ?_);exact gA)|((with_reducible refine Ob.intro ?_ ?_);exact gC)|(with_reducible first|refine br_lt ?_|refine br_lf ?_)|((with_reducible refine br_pos ?_ ?_);exact gB)|((with_reducible refine br_neg ?_ ?_);exact gB)|(with_reducible(refine br_t ?_ ?_;assumption))|(with_reducible(refine br_f ?_ ?_;assumption))|(with_reducible first|refine br_dec (fun h=>?_) fun h=>?_|refine br_not ?_|refine br_b (fun h=>?_) fun h=>?_)|((with_reducible first|refine wr_i64 rfl ?_ ?_ ?_|refine wr_u64 rfl ?_ ?_ ?_|refine wr_u32 rfl ?_ ?_ ?_);exact gB;exact gB)|(with_reducible first|refine And.intro ?_ ?_|refine True.intro|refine Stp.go ?_)))); (all_goals (conv => whnf))
  refine Lp.intro (Nat × List (Nat × Nat)) (fun g => ⟨2, [(1, .arr 2 (g.2.map encB))], [(1, .v (.int .i64 w)), (5, .os 1 2 0 g.2.length), (6, .v (.int .u64 g.1)), (7, .v (.int .u64 ((hi : Int) + 1)))]⟩)
    (fun g => lo ≤ g.1 ∧ g.1 ≤ hi + 1 ∧ g.2.length ≤ g.1 - lo ∧ g.2 ++ blksOf g.1 (hi + 1) = blksOf lo (hi + 1)) (fun g => hi + 1 - g.1) (lo, []) ?_ ?_ ?_
  · exact ⟨Nat.le_refl _, by simp only; omega, Nat.zero_le _, rfl⟩
  · (refine Le.auto ?_; repeat' ((conv => whnf); first | with_reducible refine And.intro ?_ ?_ | with_reducible exact True.intro | rfl))
  rintro ⟨at_, out⟩ ⟨i1, i2, i3, i4⟩
  simp only at i1 i2 i3 i4 ⊢
  rcases Nat.lt_or_ge at_ (hi + 1) with hlt | hge
  · (all_goals (repeat' ((conv => whnf); first | (with_reducible refine wr_is w32 ?_)|((with_reducible refine sl_full ?_ ?_);exact gA)|((with_reducible refine Ob.intro ?_ ?_);exact gC)|(with_reducible first|refine br_lt ?_|refine br_lf ?_)|((with_reducible refine br_pos ?_ ?_);exact gB)|((with_reducible refine br_neg ?_ ?_);exact gB)|(with_reducible(refine br_t ?_ ?_;assumption))|(with_reducible(refine br_f ?_ ?_;assumption))|(with_reducible first|refine br_dec (fun h=>?_) fun h=>?_|refine br_not ?_|refine br_b (fun h=>?_) fun h=>?_)|((with_reducible first|refine wr_i64 rfl ?_ ?_ ?_|refine wr_u64 rfl ?_ ?_ ?_|refine wr_u32 rfl ?_ ?_ ?_);exact gB;exact gB)|(with_reducible first|refine And.intro ?_ ?_|refine True.intro|refine Stp.go ?_)))); (all_goals (conv => whnf))
    refine Lp.intro (Nat × Nat) (fun g => ⟨2, [(1, .arr 2 (out.map encB))], [(1, .v (.int .i64 w)), (5, .os 1 2 0 out.length), (6, .v (.int .u64 at_)), (7, .v (.int .u64 ((hi : Int) + 1))), (8, .v (.int .u64 g.2))]⟩)
      (fun g => g.1 ≤ 32 ∧ g.2 = 2 ^ g.1 ∧ blkK at_ (hi + 1 - at_) 32 = blkK at_ (hi + 1 - at_) g.1) (fun g => g.1) (w, P) ?_ ?_ ?_
    · exact ⟨hw32, hPP.symm, hlow at_⟩
    · (refine Le.auto ?_; repeat' ((conv => whnf); first | with_reducible refine And.intro ?_ ?_ | with_reducible exact True.intro | rfl))
    rintro ⟨j, sz⟩ ⟨j1, j2, j3⟩
    simp only at j1 j2 j3 ⊢
    have hsz : 0 < sz := by rw [j2]; exact Nat.two_pow_pos j
    have hsz2 : sz ≤ 4294967296 := by rw [j2]; exact Nat.pow_le_pow_right (n := 2) (by omega) j1
    have hne : (sz : Int) ≠ 0 := by omega
    have hkeep : (at_ % sz ≠ 0 ∨ hi + 1 - at_ < sz) → 1 ≤ j ∧ sz / 2 = 2 ^ (j - 1) ∧ blkK at_ (hi + 1 - at_) j = blkK at_ (hi + 1 - at_) (j - 1) := by
      intro hc
      cases j with
      | zero => simp at j2; subst j2; omega
      | succ j =>
        refine ⟨by omega, by rw [j2, Nat.pow_succ, Nat.add_sub_cancel]; omega, ?_⟩
        rw [blkK, if_neg (by rw [← j2]; omega), Nat.add_sub_cancel]
    have hmod : (at_ : Int).tmod (sz : Int) = ((at_ % sz : Nat) : Int) := rfl
    (all_goals (repeat' ((conv => whnf); first | (with_reducible first|refine Ob.intro hne ?_|refine wr_u64 sz_half (by omega) (by omega) ?_)|((with_reducible refine sl_full ?_ ?_);exact gA)|((with_reducible refine Ob.intro ?_ ?_);exact gC)|(with_reducible first|refine br_lt ?_|refine br_lf ?_)|((with_reducible refine br_pos ?_ ?_);exact gB)|((with_reducible refine br_neg ?_ ?_);exact gB)|(with_reducible(refine br_t ?_ ?_;assumption))|(with_reducible(refine br_f ?_ ?_;assumption))|(with_reducible first|refine br_dec (fun h=>?_) fun h=>?_|refine br_not ?_|refine br_b (fun h=>?_) fun h=>?_)|((with_reducible first|refine wr_i64 rfl ?_ ?_ ?_|refine wr_u64 rfl ?_ ?_ ?_|refine wr_u32 rfl ?_ ?_ ?_);exact gB;exact gB)|(with_reducible first|refine And.intro ?_ ?_|refine True.intro|refine Stp.go ?_)))); (all_goals (conv => whnf))
    · obtain ⟨k1, k2, k3⟩ := hkeep (.inr (by omega))
      refine ⟨(j - 1, sz / 2), ⟨by simp only; omega, k2, by rw [j3, k3]⟩, by simp only; omega, ?_⟩
      simp only
      (refine Le.auto ?_; repeat' ((conv => whnf); first | with_reducible refine And.intro ?_ ?_ | with_reducible exact True.intro | rfl))
    · rename_i hm
      rw [hmod] at hm
      have hk : blkK at_ (hi + 1 - at_) 32 = j := by
        rw [j3]
        cases j with
        | zero => rfl
        | succ j => rw [blkK, if_pos (by rw [← j2]; omega)]
      have he : encB (at_, j) = .agg [.v (.int .u32 (at_ : Int)), .v (.int .u32 ((at_ : Int) + sz - 1))] := by
        have : ((at_ + 2 ^ j - 1 : Nat) : Int) = (at_ : Int) + sz - 1 := by rw [← j2]; omega
        simp only [encB, this]
      refine ⟨(at_ + sz, out ++ [(at_, j)]), ⟨by simp only; omega, by simp only; omega, by simp only [List.length_append, List.length_cons, List.length_nil]; omega, ?_⟩, by simp only; omega, ?_⟩
      · simp only
        rw [← i4, blksOf_step hlt, hk, ← j2, List.append_assoc, List.singleton_append]
      · simp only [List.map_append, List.length_append, List.map_cons, List.map_nil, List.length_cons, List.length_nil]
        rw [he]
        (refine Le.auto ?_; repeat' ((conv => whnf); first | with_reducible refine And.intro ?_ ?_ | with_reducible exact True.intro | rfl))
    · have hm := h
      rw [hmod] at hm
      obtain ⟨k1, k2, k3⟩ := hkeep (.inl (by omega))
      refine ⟨(j - 1, sz / 2), ⟨by simp only; omega, k2, by rw [j3, k3]⟩, by simp only; omega, ?_⟩
      simp only
      (refine Le.auto ?_; repeat' ((conv => whnf); first | with_reducible refine And.intro ?_ ?_ | with_reducible exact True.intro | rfl))
  · (all_goals (repeat' ((conv => whnf); first | ((with_reducible refine sl_full ?_ ?_);exact gA)|((with_reducible refine Ob.intro ?_ ?_);exact gC)|(with_reducible first|refine br_lt ?_|refine br_lf ?_)|((with_reducible refine br_pos ?_ ?_);exact gB)|((with_reducible refine br_neg ?_ ?_);exact gB)|(with_reducible(refine br_t ?_ ?_;assumption))|(with_reducible(refine br_f ?_ ?_;assumption))|(with_reducible first|refine br_dec (fun h=>?_) fun h=>?_|refine br_not ?_|refine br_b (fun h=>?_) fun h=>?_)|((with_reducible first|refine wr_i64 rfl ?_ ?_ ?_|refine wr_u64 rfl ?_ ?_ ?_|refine wr_u32 rfl ?_ ?_ ?_);exact gB;exact gB)|(with_reducible first|refine And.intro ?_ ?_|refine True.intro|refine Stp.go ?_)))); (all_goals (conv => whnf))
    rw [blksOf_end (by omega), List.append_nil] at i4
    rw [i4]
    exact hK
/-- how many blocks there are -/
theorem blk_desc : ∀ (j lo e : Nat), lo % 2 ^ j = 0 → e - lo < 2 ^ j → j ≤ 33 → (blksOf lo e).length ≤ j := by
  intro j
  induction j using Nat.strongRecOn with
  | _ j ih =>
    intro lo e h1 h2 h3
    rcases Nat.lt_or_ge lo e with hlt | hge
    · rw [blksOf_step hlt, List.length_cons]
      obtain ⟨s1, s2, s3⟩ := blkK_spec lo (e - lo) (by omega) 32
      generalize hk : blkK lo (e - lo) 32 = k at *
      have hkj : k < j := by
        rcases Nat.lt_or_ge k j with h | h
        · exact h
        · have := Nat.pow_le_pow_right (n := 2) (by omega) h
          omega
      have hup : e - lo < 2 ^ (k + 1) := by
        rcases Nat.lt_or_ge (e - lo) (2 ^ (k + 1)) with h | h
        · exact h
        · exfalso
          have hk1 : k + 1 ≤ 32 := by
            rcases Nat.lt_or_ge (k + 1) j with h' | h'
            · omega
            · have := Nat.pow_le_pow_right (n := 2) (by omega) h'
              omega
          have hd : lo % 2 ^ (k + 1) = 0 := Nat.mod_eq_zero_of_dvd (Nat.dvd_trans (Nat.pow_dvd_pow 2 hkj) (Nat.dvd_of_mod_eq_zero h1))
          have := blkK_max lo (e - lo) 32 (k + 1) hk1 hd h
          omega
      have hm : (lo + 2 ^ k) % 2 ^ k = 0 := by rw [Nat.add_mod_right]; exact s2
      have := ih k hkj (lo + 2 ^ k) e hm (by rw [Nat.pow_succ] at hup; omega) (by omega)
      omega
    · rw [blksOf_end hge]; exact Nat.zero_le _
theorem blk_asc : ∀ (d j lo e : Nat), j + d = 33 → lo % 2 ^ j = 0 → e ≤ 4294967296 → (blksOf lo e).length ≤ d + 33 := by
  intro d
  induction d with
  | zero =>
    intro j lo e hj h1 h2
    have := blk_desc 33 lo e (by rw [← hj]; exact h1) (by have : (2 : Nat) ^ 33 = 8589934592 := by decide
                                                          omega) (Nat.le_refl _)
    omega
  | succ d ih =>
    intro j lo e hj h1 h2
    rcases Nat.lt_or_ge lo e with hlt | hge
    · rcases Nat.lt_or_ge (e - lo) (2 ^ j) with hb | hb
      · have := blk_desc j lo e h1 hb (by omega); omega
      · rw [blksOf_step hlt, List.length_cons]
        obtain ⟨s1, s2, s3⟩ := blkK_spec lo (e - lo) (by omega) 32
        have hjk := blkK_max lo (e - lo) 32 j (by omega) h1 hb
        generalize hk : blkK lo (e - lo) 32 = k at *
        have hm : (lo + 2 ^ k) % 2 ^ k = 0 := by rw [Nat.add_mod_right]; exact s2
        rcases Nat.lt_or_ge (e - lo) (2 ^ (k + 1)) with hu | hu
        · have := blk_desc k (lo + 2 ^ k) e hm (by rw [Nat.pow_succ] at hu; omega) (by omega)
          omega
        · have hd : lo % 2 ^ (k + 1) ≠ 0 := fun h0 => by
            have hk1 : k + 1 ≤ 32 := by
              rcases Nat.lt_or_ge (k + 1) 33 with h' | h'
              · omega
              · have := Nat.pow_le_pow_right (n := 2) (by omega) h'
                have : (2 : Nat) ^ 33 = 8589934592 := by decide
                omega
            have := blkK_max lo (e - lo) 32 (k + 1) hk1 h0 hu
            omega
          have hm2 : (lo + 2 ^ k) % 2 ^ (k + 1) = 0 := by
            obtain ⟨c, hc⟩ := Nat.dvd_of_mod_eq_zero s2
            have hodd : c % 2 = 1 := by
              rcases Nat.mod_two_eq_zero_or_one c with h0 | h0
              · exfalso; apply hd
                obtain ⟨c', hc'⟩ := Nat.dvd_of_mod_eq_zero h0
                rw [hc, hc', Nat.pow_succ, ← Nat.mul_assoc]
                exact Nat.mul_mod_right _ _
              · exact h0
            have : lo + 2 ^ k = 2 ^ (k + 1) * (c / 2 + 1) := by
              have h5 : c = 2 * (c / 2) + 1 := by omega
              rw [hc, Nat.pow_succ, Nat.mul_assoc, Nat.mul_add, Nat.mul_one]
              calc 2 ^ k * c + 2 ^ k = 2 ^ k * (c + 1) := by rw [Nat.mul_add, Nat.mul_one]
                _ = 2 ^ k * (2 * (c / 2) + 2) := by congr 1; omega
            rw [this]; exact Nat.mul_mod_right _ _
          have hm3 : (lo + 2 ^ k) % 2 ^ (j + 1) = 0 := Nat.mod_eq_zero_of_dvd (Nat.dvd_trans (Nat.pow_dvd_pow 2 (by omega)) (Nat.dvd_of_mod_eq_zero hm2))
          have := ih (j + 1) (lo + 2 ^ k) e (by omega) hm3 h2
          omega
    · rw [blksOf_end hge]; exact Nat.zero_le _
theorem blks_66 {lo e : Nat} (h : e ≤ 4294967296) : (blksOf lo e).length ≤ 66 := blk_asc 33 0 lo e rfl (Nat.mod_one _) h
end Go.Proofs.YtokmdghjgegclaaGreatDoor

set_option linter.unusedVariables false
set_option linter.unusedSimpArgs false
set_option maxRecDepth 20000
namespace Go.Proofs.YtokmdghjgegclaaGreatDoor
open Go Go.Vm

def blkL (r : Rg) : List (Nat × Nat) := blksOf r.lo.toNat (r.hi.toNat + 1)
def blkN (r : Rg) : Nat := (blkL r).length
theorem blkN_le (r : Rg) : blkN r ≤ 66 := blks_66 (by have := r.h1; omega)
def prodB (b : Bx) : Nat := blkN b.r0 * blkN b.r1 * blkN b.r2 * blkN b.r3 * blkN b.r4
theorem prodB_le (b : Bx) : prodB b ≤ 1252332576 := by
  have h0 := blkN_le b.r0; have h1 := blkN_le b.r1; have h2 := blkN_le b.r2; have h3 := blkN_le b.r3; have h4 := blkN_le b.r4
  have e1 : blkN b.r0 * blkN b.r1 ≤ 66 * 66 := Nat.mul_le_mul h0 h1
  have e2 : blkN b.r0 * blkN b.r1 * blkN b.r2 ≤ 66 * 66 * 66 := Nat.mul_le_mul e1 h2
  have e3 : blkN b.r0 * blkN b.r1 * blkN b.r2 * blkN b.r3 ≤ 66 * 66 * 66 * 66 := Nat.mul_le_mul e2 h3
  exact Nat.mul_le_mul e3 h4
/-- what a box costs at a device, with ranges or without -/
def costB (b : Bx) (rg : Bool) : Nat := if b.ok then (if rg then 1 else prodB b) else 0
theorem costB_le (b : Bx) (rg : Bool) : costB b rg ≤ 1252332576 := by
  have := prodB_le b
  unfold costB
  split
  · split <;> omega
  · omega
def sumB (l : List Bx) (rg : Bool) : Nat := (l.map fun b => costB b rg).sum
theorem sumB_succ {l : List Bx} {rg : Bool} {k : Nat} {x : Bx} (h : l[k]? = some x) : sumB (l.take (k + 1)) rg = sumB (l.take k) rg + costB x rg := by
  simp [sumB, List.take_add_one, h]
theorem sumB_le (rg : Bool) : ∀ l : List Bx, sumB l rg ≤ l.length * 1252332576
  | [] => Nat.zero_le _
  | x :: l => by
    have := sumB_le rg l
    have := costB_le x rg
    simp only [sumB, List.map_cons, List.sum_cons, List.length_cons] at *
    omega
/-- prefix.Blocks of a range of a field -/
theorem cpBlkR (w : Nat) (hw : w = 32 ∨ w = 16 ∨ w = 8) (r : Rg) (hle : r.lo ≤ r.hi) (hlt : r.hi < ((2 ^ w : Nat) : Int)) {K : AV → List Vm.Obj → Prop} (hK : K (.lst ((blkL r).map encB)) []) :
    ACall Tryz.prog 187 [.agg [.v (.int .u32 r.lo), .v (.int .u32 r.hi)], .v (.int .i64 w)] [] K := by
  have h0 := r.l0; have h1 := r.h0
  have e1 : r.lo = ((r.lo.toNat : Nat) : Int) := by omega
  have e2 : r.hi = ((r.hi.toNat : Nat) : Int) := by omega
  unfold blkL at hK
  rw [e1, e2]
  exact cpBlocksW w hw r.lo.toNat r.hi.toNat (by omega) (by omega) hK
end Go.Proofs.YtokmdghjgegclaaGreatDoor

set_option linter.unusedVariables false
set_option linter.unusedSimpArgs false
set_option maxRecDepth 20000
namespace Go.Proofs.YtokmdghjgegclaaGreatDoor
open Go Go.Vm

structure Pl where
  a : Int
  b : Int
  eg : Bool
  allow : List Bx
noncomputable abbrev encPl (x : Pl) : AV := .agg [.v (.int .i64 x.a), .v (.int .i64 x.b), .sb x.eg, encXs x.allow]
def addAt (l : List Nat) (i v : Nat) : List Nat := l.set i (l.getD i 0 + v)
def devOf (es : List Ed) (i : Int) : Nat := match es[i.toNat]? with
  | some e => e.dev.toNat
  | none => 0
def rgD (ds : List Dv) (d : Nat) : Bool := match ds[d]? with
  | some x => x.rg
  | none => false
def whoT (t : Tp) (a b : Int) : Bx := match t.edges[a.toNat]?, t.edges[b.toNat]? with
  | some ea, some eb => whoB ea.pf eb.pf
  | _, _ => zB
/-- the device that enforces, and the other one -/
def enfD (t : Tp) (x : Pl) : Nat := if x.eg then devOf t.edges x.b else devOf t.edges x.a
def othD (t : Tp) (x : Pl) : Nat := if x.eg then devOf t.edges x.a else devOf t.edges x.b
/-- the costs with a placed pair more -/
def costP (t : Tp) (l : List Nat) (x : Pl) : List Nat :=
  addAt (addAt l (enfD t x) (sumB x.allow (rgD t.devs (enfD t x)))) (othD t x) (costB (whoT t x.a x.b) (rgD t.devs (othD t x)))
def fitsP (t : Tp) (l : List Nat) : Bool := (t.devs.zip l).all fun q => decide ((q.2 : Int) ≤ q.1.cap)
def placeStep (t : Tp) (s : List Pl × List Nat) (x : Pl) : Option (List Pl × List Nat) :=
  if fitsP t (costP t s.2 x) then some (s.1 ++ [x], costP t s.2 x)
  else if fitsP t (costP t s.2 { x with eg := true }) then some (s.1 ++ [{ x with eg := true }], costP t s.2 { x with eg := true }) else none
def placeGo (t : Tp) : List Pl → List Pl × List Nat → Option (List Pl × List Nat)
  | [], s => some s
  | x :: l, s => match placeStep t s x with
    | some s' => placeGo t l s'
    | none => none
theorem placeGo_app (t : Tp) : ∀ (l m : List Pl) (s : List Pl × List Nat), placeGo t (l ++ m) s = match placeGo t l s with
    | some s' => placeGo t m s'
    | none => none
  | [], m, s => rfl
  | x :: l, m, s => by
    rw [List.cons_append, placeGo, placeGo]
    cases placeStep t s x with
    | none => rfl
    | some s' => exact placeGo_app t l m s'
/-- the pairs of indices, in their order: those before (a, b) -/
def preI (n a b : Nat) : List (Nat × Nat) := ((List.range a).flatMap fun i => (List.range n).map fun j => (i, j)) ++ (List.range b).map fun j => (a, j)
theorem preI_succ (n a b : Nat) : preI n a (b + 1) = preI n a b ++ [(a, b)] := by
  rw [preI, preI, List.range_succ, List.map_append, List.append_assoc]; rfl
theorem preI_row (n a : Nat) : preI n a n = preI n (a + 1) 0 := by
  simp [preI, List.range_succ]
def idxI (n : Nat) : List (Nat × Nat) := preI n n 0
theorem preI_len (n a b : Nat) : (preI n a b).length = a * n + b := by
  rw [preI, List.length_append, List.length_map, List.length_range]
  congr 1
  induction a with
  | zero => simp
  | succ a ih => rw [List.range_succ, List.flatMap_append, List.length_append, ih, Nat.succ_mul]; simp
noncomputable def pairsOf (t : Tp) (p : Pol) (l : List (Nat × Nat)) : List Pl := l.filterMap fun q => if (pairP t p q.1 q.2).1 = [] then none else some ⟨q.1, q.2, false, (pairP t p q.1 q.2).1⟩
theorem pairsOf_snoc (t : Tp) (p : Pol) (l : List (Nat × Nat)) (q : Nat × Nat) : pairsOf t p (l ++ [q]) = pairsOf t p l ++ (if (pairP t p q.1 q.2).1 = [] then [] else [⟨q.1, q.2, false, (pairP t p q.1 q.2).1⟩]) := by
  rw [pairsOf, List.filterMap_append, pairsOf]
  congr 1
  by_cases h : (pairP t p q.1 q.2).1 = []
  · simp [h]
  · simp [h]
theorem pairsOf_len (t : Tp) (p : Pol) (l : List (Nat × Nat)) : (pairsOf t p l).length ≤ l.length := List.length_filterMap_le ..
/-- the first error of the pairs -/
noncomputable def errOf (t : Tp) (p : Pol) : List (Nat × Nat) → Int
  | [] => 0
  | q :: l => if (pairP t p q.1 q.2).2 ≠ 0 then (pairP t p q.1 q.2).2 else errOf t p l
theorem errOf_app (t : Tp) (p : Pol) : ∀ (l m : List (Nat × Nat)), errOf t p l = 0 → errOf t p (l ++ m) = errOf t p m
  | [], m, _ => rfl
  | q :: l, m, h => by
    rw [errOf] at h
    rw [List.cons_append, errOf]
    split at h
    · rename_i hn; exact absurd h hn
    · rename_i hn
      rw [if_neg hn]
      exact errOf_app t p l m h
theorem errOf_pre (t : Tp) (p : Pol) : ∀ (l m : List (Nat × Nat)), errOf t p l ≠ 0 → errOf t p (l ++ m) = errOf t p l
  | [], m, h => absurd rfl h
  | q :: l, m, h => by
    rw [errOf] at h
    rw [List.cons_append, errOf, errOf]
    split
    · rfl
    · rename_i hn
      rw [if_neg hn] at h
      exact errOf_pre t p l m h
def zeros (n : Nat) : List Nat := List.replicate n 0
noncomputable def placeP (t : Tp) (p : Pol) : List Pl × Int :=
  if polB t p = false then ([], 1) else if errOf t p (idxI t.edges.length) ≠ 0 then ([], errOf t p (idxI t.edges.length)) else
    match placeGo t (pairsOf t p (idxI t.edges.length)) ([], zeros t.devs.length) with
    | some s => (s.1, 0)
    | none => ([], 9)
/-- good indices of devices -/
structure PlIn (t : Tp) (x : Pl) : Prop where
  a0 : 0 ≤ x.a
  a1 : x.a < t.edges.length
  b0 : 0 ≤ x.b
  b1 : x.b < t.edges.length
  len : x.allow.length ≤ 4096
theorem PlIn.eg {t : Tp} {x : Pl} (h : PlIn t x) (b : Bool) : PlIn t { x with eg := b } := ⟨h.a0, h.a1, h.b0, h.b1, h.len⟩
def DevIn (t : Tp) : Prop := ∀ e, e ∈ t.edges → 0 ≤ e.dev ∧ e.dev < t.devs.length
theorem devOf_lt {t : Tp} (ht : DevIn t) {i : Int} (h0 : 0 ≤ i) (h1 : i < t.edges.length) : devOf t.edges i < t.devs.length := by
  unfold devOf
  have hl : i.toNat < t.edges.length := by omega
  rw [List.getElem?_eq_getElem hl]
  have := ht _ (List.getElem_mem hl)
  simp only
  omega
theorem enf_lt {t : Tp} (ht : DevIn t) {x : Pl} (h : PlIn t x) : enfD t x < t.devs.length := by
  unfold enfD; split
  · exact devOf_lt ht h.b0 h.b1
  · exact devOf_lt ht h.a0 h.a1
theorem oth_lt {t : Tp} (ht : DevIn t) {x : Pl} (h : PlIn t x) : othD t x < t.devs.length := by
  unfold othD; split
  · exact devOf_lt ht h.a0 h.a1
  · exact devOf_lt ht h.b0 h.b1
theorem addAt_take {l : List Nat} {n i v : Nat} (h : i < n) : (addAt l i v).take n = addAt (l.take n) i v := by
  unfold addAt
  rw [List.take_set]
  congr 2
  rw [List.getD_eq_getElem?_getD, List.getD_eq_getElem?_getD, List.getElem?_take, if_pos h]
theorem addAt_len {l : List Nat} {i v : Nat} : (addAt l i v).length = l.length := by rw [addAt, List.length_set]
theorem costP_len (t : Tp) (l : List Nat) (x : Pl) : (costP t l x).length = l.length := by rw [costP, addAt_len, addAt_len]
theorem costP_take {t : Tp} (ht : DevIn t) {l : List Nat} {x : Pl} (h : PlIn t x) : (costP t l x).take t.devs.length = costP t (l.take t.devs.length) x := by
  rw [costP, costP, addAt_take (oth_lt ht h), addAt_take (enf_lt ht h)]
theorem zip_take {α β : Type} : ∀ (ds : List α) (l : List β), ds.zip (l.take ds.length) = ds.zip l
  | [], l => by simp
  | d :: ds, [] => by simp
  | d :: ds, x :: l => by simp [zip_take ds l]
theorem fitsP_take (t : Tp) (l : List Nat) : fitsP t (l.take t.devs.length) = fitsP t l := by
  unfold fitsP
  rw [zip_take]
/-- numbers at the devices behind the last one change nothing -/
theorem placeGo_take {t : Tp} (ht : DevIn t) : ∀ (l : List Pl) (o : List Pl) (s : List Nat), (∀ x, x ∈ l → PlIn t x) → placeGo t l (o, s.take t.devs.length) = (placeGo t l (o, s)).map fun r => (r.1, r.2.take t.devs.length)
  | [], o, s, _ => rfl
  | x :: l, o, s, h => by
    have hx := h x (by simp)
    have hx' := hx.eg true
    have hl := fun y hy => h y (List.mem_cons_of_mem x hy)
    rw [placeGo, placeGo, placeStep, placeStep]
    simp only
    rw [← costP_take ht hx, ← costP_take ht hx', fitsP_take, fitsP_take]
    by_cases h1 : fitsP t (costP t s x) = true
    · rw [if_pos h1, if_pos h1]
      exact placeGo_take ht l _ _ hl
    · rw [if_neg h1, if_neg h1]
      by_cases h2 : fitsP t (costP t s { x with eg := true }) = true
      · rw [if_pos h2, if_pos h2]
        exact placeGo_take ht l _ _ hl
      · rw [if_neg h2, if_neg h2]; rfl
/-- entries stay small -/
def Small (m : Nat) (l : List Nat) : Prop := ∀ v, v ∈ l → v ≤ m * 5130807563872
theorem addAt_small {l : List Nat} {i v c : Nat} (h : ∀ x, x ∈ l → x ≤ c) : ∀ x, x ∈ addAt l i v → x ≤ c + v := by
  intro x hx
  unfold addAt at hx
  rcases List.mem_or_eq_of_mem_set hx with hx | rfl
  · exact Nat.le_trans (h x hx) (by omega)
  · rw [List.getD_eq_getElem?_getD]
    cases hg : l[i]? with
    | none => simp
    | some y =>
      have := h y (List.mem_of_getElem? hg)
      simp only [Option.getD_some]
      omega
theorem costP_small {t : Tp} {l : List Nat} {x : Pl} {m : Nat} (hx : x.allow.length ≤ 4096) (h : Small m l) : Small (m + 1) (costP t l x) := by
  have h1 := sumB_le (rgD t.devs (enfD t x)) x.allow
  have h2 := costB_le (whoT t x.a x.b) (rgD t.devs (othD t x))
  intro v hv
  unfold costP at hv
  have := addAt_small (addAt_small h) v hv
  omega
theorem small_zero (n : Nat) : Small 0 (zeros n) := fun v hv => by rw [zeros, List.mem_replicate] at hv; omega
/-- which lists of placed pairs are valid -/
structure PlOk1 (t : Tp) (l : List Pl) (i : Nat) (x : Pl) : Prop where
  a0 : 0 ≤ x.a
  a1 : x.a < t.edges.length
  b0 : 0 ≤ x.b
  b1 : x.b < t.edges.length
  ne : x.a ≠ x.b
  al : x.allow ≠ []
  set : setB x.allow = true
  ord : ∀ k y, i = k + 1 → l[k]? = some y → y.a < x.a ∨ (y.a = x.a ∧ y.b < x.b)
  sub : subB x.allow [whoT t x.a x.b] = true
structure PlsOk (t : Tp) (l : List Pl) : Prop where
  comp : compB t = true
  all : ∀ i x, l[i]? = some x → PlOk1 t l i x
open Classical in
noncomputable def plsB (t : Tp) (l : List Pl) : Bool := decide (PlsOk t l)
theorem plsB_true {t : Tp} {l : List Pl} (h : PlsOk t l) : plsB t l = true := by simp [plsB, h]
theorem plsB_false {t : Tp} {l : List Pl} (h : ¬ PlsOk t l) : plsB t l = false := by simp [plsB, h]
theorem plsB_iff {t : Tp} {l : List Pl} : plsB t l = true ↔ PlsOk t l := by simp [plsB]
theorem PlOk1.inn {t : Tp} {l : List Pl} {i : Nat} {x : Pl} (h : PlOk1 t l i x) : PlIn t x := ⟨h.a0, h.a1, h.b0, h.b1, (setB_pset h.set).len⟩
/-- the costs of placed pairs -/
def costsGo (t : Tp) (l : List Pl) (s : List Nat) : List Nat := l.foldl (costP t) s
noncomputable def costsP (t : Tp) (l : List Pl) : List Nat := if plsB t l = true then costsGo t l (zeros t.devs.length) else []
theorem costsGo_take {t : Tp} (ht : DevIn t) : ∀ (l : List Pl) (s : List Nat), (∀ x, x ∈ l → PlIn t x) → costsGo t l (s.take t.devs.length) = (costsGo t l s).take t.devs.length
  | [], s, _ => rfl
  | x :: l, s, h => by
    rw [costsGo, List.foldl_cons, ← costP_take ht (h x (by simp))]
    exact costsGo_take ht l _ fun y hy => h y (List.mem_cons_of_mem _ hy)
theorem costsGo_succ {t : Tp} {l : List Pl} {s : List Nat} {k : Nat} {x : Pl} (h : l[k]? = some x) : costsGo t (l.take (k + 1)) s = costP t (costsGo t (l.take k) s) x := by
  rw [List.take_add_one, h, costsGo, List.foldl_append]; rfl
end Go.Proofs.YtokmdghjgegclaaGreatDoor

set_option linter.unusedVariables false
set_option maxRecDepth 100000
namespace Go.Proofs.YtokmdghjgegclaaGreatDoor
open Go Go.Vm Go.ChangeShapes Go.WideShapes Go.ChangeAt Go.RowKit

theorem wants_none {ts : List TypeId} (h : (ts.all fun t => Tryz.prog.wantsStandIn t == false) = true) {t : TypeId} (ht : t ∈ ts) : Tryz.prog.wantsStandIn t = false := by
  have := List.all_eq_true.1 h t ht
  simpa using this
theorem ty_hd {d : Nat} {y : AV} (h : Ty Tryz.prog (d + 2) 64 y) : ∃ g : Hd, y = encHd g ∧ g.Ok := by
  obtain ⟨ys, hl, rfl, hf⟩ := h
  match ys, hl with
  | [a, b, c, e, f], _ =>
    obtain ⟨a, rfl, a0, a1⟩ := hf 0 _ a rfl rfl
    obtain ⟨b, rfl, b0, b1⟩ := hf 1 _ b rfl rfl
    obtain ⟨c, rfl, c0, c1⟩ := hf 2 _ c rfl rfl
    obtain ⟨e, rfl, e0, e1⟩ := hf 3 _ e rfl rfl
    obtain ⟨f, rfl, f0, f1⟩ := hf 4 _ f rfl rfl
    exact ⟨⟨a, b, c, e, f⟩, rfl, ⟨a0, a1, b0, b1, c0, c1, e0, e1, f0, f1⟩⟩
end Go.Proofs.YtokmdghjgegclaaGreatDoor

set_option linter.unusedVariables false
set_option linter.unusedSimpArgs false
set_option maxRecDepth 20000
set_option maxHeartbeats 4000000
namespace Go.Proofs.YtokmdghjgegclaaGreatDoor
open Go Go.Vm

theorem nN1 (raw : List Int) (pos : Nat) (hp : pos ≤ raw.length) (hr : raw.length ≤ 9223372036854775807) {K : AV → List Vm.Obj → Prop}
    (hK : ∀ pos' : Nat, pos' ≤ raw.length → K (.v (.int .i64 0)) [tapeO raw pos']) : ACall Tryz.prog 13 [.op 0 0, .v (.int .i64 ((1 : Nat) : Int))] [tapeO raw pos] K :=
  nNext raw pos 1 (by decide) hp hr fun m p' hm hp' => by
    obtain rfl : m = 0 := by omega
    exact hK p' hp'
noncomputable abbrev celX (b : Bx) : List AV := [.v (.int .u32 b.r0.lo), .v (.int .u32 b.r0.hi), .v (.int .u32 b.r1.lo), .v (.int .u32 b.r1.hi), .v (.int .u32 b.r2.lo), .v (.int .u32 b.r2.hi), .v (.int .u32 b.r3.lo), .v (.int .u32 b.r3.hi), .v (.int .u32 b.r4.lo), .v (.int .u32 b.r4.hi)]
/-- (*Tape).Near -/
theorem cvNear (raw : List Int) (pos : Nat) (w : Bx) (hp : pos ≤ raw.length) (hr : raw.length ≤ 9223372036854775807) {K : AV → List Vm.Obj → Prop}
    (hK : ∀ (h : Hd) (pos' : Nat), h.Ok → pos' ≤ raw.length → K (encHd h) [tapeO raw pos', .arr 10 [encX w]]) : ACall Tryz.prog 28 [.op 0 0, .os 1 10 0 1] [tapeO raw pos, .arr 10 [encX w]] K := by
  have b0 := And.intro (Rg.l0 w.r0) (Rg.l1 w.r0)
  have c0 := And.intro (Rg.h0 w.r0) (Rg.h1 w.r0)
  have b1 := And.intro (Rg.l0 w.r1) (Rg.l1 w.r1)
  have c1 := And.intro (Rg.h0 w.r1) (Rg.h1 w.r1)
  have b2 := And.intro (Rg.l0 w.r2) (Rg.l1 w.r2)
  have c2 := And.intro (Rg.h0 w.r2) (Rg.h1 w.r2)
  have b3 := And.intro (Rg.l0 w.r3) (Rg.l1 w.r3)
  have c3 := And.intro (Rg.h0 w.r3) (Rg.h1 w.r3)
  have b4 := And.intro (Rg.l0 w.r4) (Rg.l1 w.r4)
  have c4 := And.intro (Rg.h0 w.r4) (Rg.h1 w.r4)
  refine ofvNear rfl rfl ?_
  (all_goals (repeat' ((conv => whnf); first | (refine nN1 raw _ (by assumption) hr fun p1 hp1 => ?_)|(refine in_one ?_)|(with_reducible first|refine nNext raw _ _ (by omega) (by assumption) hr fun m1 p1 hm1 hp1 => ?_|refine cvHdr raw _ (by assumption) hr fun h p2 ho hp2 => ?_)|(refine in_c (by decide) ?_)|(with_reducible first|refine in_nat (by omega) ?_|refine wr_u32_any fun r r0 r1 => ?_)|(refine Ix.intro (by exact rfl) ?_)|(with_reducible first|refine cr3Top _ ?_|refine cvHd _ _ _ _ _ (by omega) (by omega) (by omega) (by omega) fun g ho => ?_)|(refine ix_5 (by omega) ⟨by omega, by omega, ⟨by assumption, by assumption⟩, ⟨by assumption, by assumption⟩, ⟨by assumption, by assumption⟩⟩ fun y y0 y1 => ?_)|((with_reducible refine sl_full ?_ ?_);exact gA)|((with_reducible refine Ob.intro ?_ ?_);exact gC)|(with_reducible first|refine br_lt ?_|refine br_lf ?_)|((with_reducible refine br_pos ?_ ?_);exact gB)|((with_reducible refine br_neg ?_ ?_);exact gB)|(with_reducible(refine br_t ?_ ?_;assumption))|(with_reducible(refine br_f ?_ ?_;assumption))|(with_reducible first|refine br_dec (fun h=>?_) fun h=>?_|refine br_not ?_|refine br_b (fun h=>?_) fun h=>?_)|((with_reducible first|refine wr_i64 rfl ?_ ?_ ?_|refine wr_u64 rfl ?_ ?_ ?_|refine wr_u32 rfl ?_ ?_ ?_);exact gB;exact gB)|(with_reducible first|refine And.intro ?_ ?_|refine True.intro|refine Stp.go ?_)))); (all_goals (conv => whnf))
  · exact hK _ _ (by assumption) (by assumption)
  refine Lp.times 6 ?_
  (all_goals (repeat' ((conv => whnf); first | (with_reducible first|refine nNext raw _ _ (by omega) (by assumption) hr fun m1 p1 hm1 hp1 => ?_|refine cvHdr raw _ (by assumption) hr fun h p2 ho hp2 => ?_)|(refine in_c (by decide) ?_)|(with_reducible first|refine in_nat (by omega) ?_|refine wr_u32_any fun r r0 r1 => ?_)|(refine Ix.intro (by exact rfl) ?_)|(with_reducible first|refine cr3Top _ ?_|refine cvHd _ _ _ _ _ (by omega) (by omega) (by omega) (by omega) fun g ho => ?_)|(refine ix_5 (by omega) ⟨by omega, by omega, ⟨by assumption, by assumption⟩, ⟨by assumption, by assumption⟩, ⟨by assumption, by assumption⟩⟩ fun y y0 y1 => ?_)|((with_reducible refine sl_full ?_ ?_);exact gA)|((with_reducible refine Ob.intro ?_ ?_);exact gC)|(with_reducible first|refine br_lt ?_|refine br_lf ?_)|((with_reducible refine br_pos ?_ ?_);exact gB)|((with_reducible refine br_neg ?_ ?_);exact gB)|(with_reducible(refine br_t ?_ ?_;assumption))|(with_reducible(refine br_f ?_ ?_;assumption))|(with_reducible first|refine br_dec (fun h=>?_) fun h=>?_|refine br_not ?_|refine br_b (fun h=>?_) fun h=>?_)|((with_reducible first|refine wr_i64 rfl ?_ ?_ ?_|refine wr_u64 rfl ?_ ?_ ?_|refine wr_u32 rfl ?_ ?_ ?_);exact gB;exact gB)|(with_reducible first|refine And.intro ?_ ?_|refine True.intro|refine Stp.go ?_)))); (all_goals (conv => whnf))
  refine Jn.intro (Nat × Int) (fun g => ⟨5, [(0, tapeO raw g.1), (1, .arr 10 [encX w]), (2, .box [.v (.int .u32 0), .v (.int .u32 0), .v (.int .u8 0), .v (.int .u16 0), .v (.int .u16 0)]), (3, .box (celX w)), (4, .box [.v (.int .u32 g.2), .v (.int .u32 0), .v (.int .u32 0), .v (.int .u32 0), .v (.int .u32 0)])], [(0, .op 0 0), (4, .op 2 0), (5, .op 3 0), (6, .op 4 0), (7, .v (.int .i64 0))]⟩) (fun g => g.1 ≤ raw.length ∧ 0 ≤ g.2 ∧ g.2 ≤ 4294967295) ?_ ?_
  · (all_goals (repeat' ((conv => whnf); first | (with_reducible first|refine nNext raw _ _ (by omega) (by assumption) hr fun m1 p1 hm1 hp1 => ?_|refine cvHdr raw _ (by assumption) hr fun h p2 ho hp2 => ?_)|(refine in_c (by decide) ?_)|(with_reducible first|refine in_nat (by omega) ?_|refine wr_u32_any fun r r0 r1 => ?_)|(refine Ix.intro (by exact rfl) ?_)|(with_reducible first|refine cr3Top _ ?_|refine cvHd _ _ _ _ _ (by omega) (by omega) (by omega) (by omega) fun g ho => ?_)|(refine ix_5 (by omega) ⟨by omega, by omega, ⟨by assumption, by assumption⟩, ⟨by assumption, by assumption⟩, ⟨by assumption, by assumption⟩⟩ fun y y0 y1 => ?_)|((with_reducible refine sl_full ?_ ?_);exact gA)|((with_reducible refine Ob.intro ?_ ?_);exact gC)|(with_reducible first|refine br_lt ?_|refine br_lf ?_)|((with_reducible refine br_pos ?_ ?_);exact gB)|((with_reducible refine br_neg ?_ ?_);exact gB)|(with_reducible(refine br_t ?_ ?_;assumption))|(with_reducible(refine br_f ?_ ?_;assumption))|(with_reducible first|refine br_dec (fun h=>?_) fun h=>?_|refine br_not ?_|refine br_b (fun h=>?_) fun h=>?_)|((with_reducible first|refine wr_i64 rfl ?_ ?_ ?_|refine wr_u64 rfl ?_ ?_ ?_|refine wr_u32 rfl ?_ ?_ ?_);exact gB;exact gB)|(with_reducible first|refine And.intro ?_ ?_|refine True.intro|refine Stp.go ?_)))); (all_goals (conv => whnf))
    all_goals
      refine ⟨(p1, y), ⟨hp1, y0, y1⟩, ?_⟩
      (refine Le.auto ?_; repeat' ((conv => whnf); first | with_reducible refine And.intro ?_ ?_ | with_reducible exact True.intro | rfl))
  rintro ⟨q0, y0⟩ ⟨hq0, l0, u0⟩
  simp only at hq0 l0 u0 ⊢
  (all_goals (repeat' ((conv => whnf); first | (with_reducible first|refine nNext raw _ _ (by omega) (by assumption) hr fun m1 p1 hm1 hp1 => ?_|refine cvHdr raw _ (by assumption) hr fun h p2 ho hp2 => ?_)|(refine in_c (by decide) ?_)|(with_reducible first|refine in_nat (by omega) ?_|refine wr_u32_any fun r r0 r1 => ?_)|(refine Ix.intro (by exact rfl) ?_)|(with_reducible first|refine cr3Top _ ?_|refine cvHd _ _ _ _ _ (by omega) (by omega) (by omega) (by omega) fun g ho => ?_)|(refine ix_5 (by omega) ⟨by omega, by omega, ⟨by assumption, by assumption⟩, ⟨by assumption, by assumption⟩, ⟨by assumption, by assumption⟩⟩ fun y y0 y1 => ?_)|((with_reducible refine sl_full ?_ ?_);exact gA)|((with_reducible refine Ob.intro ?_ ?_);exact gC)|(with_reducible first|refine br_lt ?_|refine br_lf ?_)|((with_reducible refine br_pos ?_ ?_);exact gB)|((with_reducible refine br_neg ?_ ?_);exact gB)|(with_reducible(refine br_t ?_ ?_;assumption))|(with_reducible(refine br_f ?_ ?_;assumption))|(with_reducible first|refine br_dec (fun h=>?_) fun h=>?_|refine br_not ?_|refine br_b (fun h=>?_) fun h=>?_)|((with_reducible first|refine wr_i64 rfl ?_ ?_ ?_|refine wr_u64 rfl ?_ ?_ ?_|refine wr_u32 rfl ?_ ?_ ?_);exact gB;exact gB)|(with_reducible first|refine And.intro ?_ ?_|refine True.intro|refine Stp.go ?_)))); (all_goals (conv => whnf))
  refine Jn.intro (Nat × Int) (fun g => ⟨5, [(0, tapeO raw g.1), (1, .arr 10 [encX w]), (2, .box [.v (.int .u32 0), .v (.int .u32 0), .v (.int .u8 0), .v (.int .u16 0), .v (.int .u16 0)]), (3, .box (celX w)), (4, .box [.v (.int .u32 (min y0 (topI 0))), .v (.int .u32 g.2), .v (.int .u32 0), .v (.int .u32 0), .v (.int .u32 0)])], [(0, .op 0 0), (4, .op 2 0), (5, .op 3 0), (6, .op 4 0), (7, .v (.int .i64 1))]⟩) (fun g => g.1 ≤ raw.length ∧ 0 ≤ g.2 ∧ g.2 ≤ 4294967295) ?_ ?_
  · (all_goals (repeat' ((conv => whnf); first | (with_reducible first|refine nNext raw _ _ (by omega) (by assumption) hr fun m1 p1 hm1 hp1 => ?_|refine cvHdr raw _ (by assumption) hr fun h p2 ho hp2 => ?_)|(refine in_c (by decide) ?_)|(with_reducible first|refine in_nat (by omega) ?_|refine wr_u32_any fun r r0 r1 => ?_)|(refine Ix.intro (by exact rfl) ?_)|(with_reducible first|refine cr3Top _ ?_|refine cvHd _ _ _ _ _ (by omega) (by omega) (by omega) (by omega) fun g ho => ?_)|(refine ix_5 (by omega) ⟨by omega, by omega, ⟨by assumption, by assumption⟩, ⟨by assumption, by assumption⟩, ⟨by assumption, by assumption⟩⟩ fun y y0 y1 => ?_)|((with_reducible refine sl_full ?_ ?_);exact gA)|((with_reducible refine Ob.intro ?_ ?_);exact gC)|(with_reducible first|refine br_lt ?_|refine br_lf ?_)|((with_reducible refine br_pos ?_ ?_);exact gB)|((with_reducible refine br_neg ?_ ?_);exact gB)|(with_reducible(refine br_t ?_ ?_;assumption))|(with_reducible(refine br_f ?_ ?_;assumption))|(with_reducible first|refine br_dec (fun h=>?_) fun h=>?_|refine br_not ?_|refine br_b (fun h=>?_) fun h=>?_)|((with_reducible first|refine wr_i64 rfl ?_ ?_ ?_|refine wr_u64 rfl ?_ ?_ ?_|refine wr_u32 rfl ?_ ?_ ?_);exact gB;exact gB)|(with_reducible first|refine And.intro ?_ ?_|refine True.intro|refine Stp.go ?_)))); (all_goals (conv => whnf))
    all_goals
      refine ⟨(p1, y), ⟨hp1, y0, y1⟩, ?_⟩
      (refine Le.auto ?_; repeat' ((conv => whnf); first | with_reducible refine And.intro ?_ ?_ | with_reducible exact True.intro | rfl))
  rintro ⟨q1, y1⟩ ⟨hq1, l1, u1⟩
  simp only at hq1 l1 u1 ⊢
  (all_goals (repeat' ((conv => whnf); first | (with_reducible first|refine nNext raw _ _ (by omega) (by assumption) hr fun m1 p1 hm1 hp1 => ?_|refine cvHdr raw _ (by assumption) hr fun h p2 ho hp2 => ?_)|(refine in_c (by decide) ?_)|(with_reducible first|refine in_nat (by omega) ?_|refine wr_u32_any fun r r0 r1 => ?_)|(refine Ix.intro (by exact rfl) ?_)|(with_reducible first|refine cr3Top _ ?_|refine cvHd _ _ _ _ _ (by omega) (by omega) (by omega) (by omega) fun g ho => ?_)|(refine ix_5 (by omega) ⟨by omega, by omega, ⟨by assumption, by assumption⟩, ⟨by assumption, by assumption⟩, ⟨by assumption, by assumption⟩⟩ fun y y0 y1 => ?_)|((with_reducible refine sl_full ?_ ?_);exact gA)|((with_reducible refine Ob.intro ?_ ?_);exact gC)|(with_reducible first|refine br_lt ?_|refine br_lf ?_)|((with_reducible refine br_pos ?_ ?_);exact gB)|((with_reducible refine br_neg ?_ ?_);exact gB)|(with_reducible(refine br_t ?_ ?_;assumption))|(with_reducible(refine br_f ?_ ?_;assumption))|(with_reducible first|refine br_dec (fun h=>?_) fun h=>?_|refine br_not ?_|refine br_b (fun h=>?_) fun h=>?_)|((with_reducible first|refine wr_i64 rfl ?_ ?_ ?_|refine wr_u64 rfl ?_ ?_ ?_|refine wr_u32 rfl ?_ ?_ ?_);exact gB;exact gB)|(with_reducible first|refine And.intro ?_ ?_|refine True.intro|refine Stp.go ?_)))); (all_goals (conv => whnf))
  refine Jn.intro (Nat × Int) (fun g => ⟨5, [(0, tapeO raw g.1), (1, .arr 10 [encX w]), (2, .box [.v (.int .u32 0), .v (.int .u32 0), .v (.int .u8 0), .v (.int .u16 0), .v (.int .u16 0)]), (3, .box (celX w)), (4, .box [.v (.int .u32 (min y0 (topI 0))), .v (.int .u32 (min y1 (topI 1))), .v (.int .u32 g.2), .v (.int .u32 0), .v (.int .u32 0)])], [(0, .op 0 0), (4, .op 2 0), (5, .op 3 0), (6, .op 4 0), (7, .v (.int .i64 2))]⟩) (fun g => g.1 ≤ raw.length ∧ 0 ≤ g.2 ∧ g.2 ≤ 4294967295) ?_ ?_
  · (all_goals (repeat' ((conv => whnf); first | (with_reducible first|refine nNext raw _ _ (by omega) (by assumption) hr fun m1 p1 hm1 hp1 => ?_|refine cvHdr raw _ (by assumption) hr fun h p2 ho hp2 => ?_)|(refine in_c (by decide) ?_)|(with_reducible first|refine in_nat (by omega) ?_|refine wr_u32_any fun r r0 r1 => ?_)|(refine Ix.intro (by exact rfl) ?_)|(with_reducible first|refine cr3Top _ ?_|refine cvHd _ _ _ _ _ (by omega) (by omega) (by omega) (by omega) fun g ho => ?_)|(refine ix_5 (by omega) ⟨by omega, by omega, ⟨by assumption, by assumption⟩, ⟨by assumption, by assumption⟩, ⟨by assumption, by assumption⟩⟩ fun y y0 y1 => ?_)|((with_reducible refine sl_full ?_ ?_);exact gA)|((with_reducible refine Ob.intro ?_ ?_);exact gC)|(with_reducible first|refine br_lt ?_|refine br_lf ?_)|((with_reducible refine br_pos ?_ ?_);exact gB)|((with_reducible refine br_neg ?_ ?_);exact gB)|(with_reducible(refine br_t ?_ ?_;assumption))|(with_reducible(refine br_f ?_ ?_;assumption))|(with_reducible first|refine br_dec (fun h=>?_) fun h=>?_|refine br_not ?_|refine br_b (fun h=>?_) fun h=>?_)|((with_reducible first|refine wr_i64 rfl ?_ ?_ ?_|refine wr_u64 rfl ?_ ?_ ?_|refine wr_u32 rfl ?_ ?_ ?_);exact gB;exact gB)|(with_reducible first|refine And.intro ?_ ?_|refine True.intro|refine Stp.go ?_)))); (all_goals (conv => whnf))
    all_goals
      refine ⟨(p1, y), ⟨hp1, y0, y1⟩, ?_⟩
      (refine Le.auto ?_; repeat' ((conv => whnf); first | with_reducible refine And.intro ?_ ?_ | with_reducible exact True.intro | rfl))
  rintro ⟨q2, y2⟩ ⟨hq2, l2, u2⟩
  simp only at hq2 l2 u2 ⊢
  (all_goals (repeat' ((conv => whnf); first | (with_reducible first|refine nNext raw _ _ (by omega) (by assumption) hr fun m1 p1 hm1 hp1 => ?_|refine cvHdr raw _ (by assumption) hr fun h p2 ho hp2 => ?_)|(refine in_c (by decide) ?_)|(with_reducible first|refine in_nat (by omega) ?_|refine wr_u32_any fun r r0 r1 => ?_)|(refine Ix.intro (by exact rfl) ?_)|(with_reducible first|refine cr3Top _ ?_|refine cvHd _ _ _ _ _ (by omega) (by omega) (by omega) (by omega) fun g ho => ?_)|(refine ix_5 (by omega) ⟨by omega, by omega, ⟨by assumption, by assumption⟩, ⟨by assumption, by assumption⟩, ⟨by assumption, by assumption⟩⟩ fun y y0 y1 => ?_)|((with_reducible refine sl_full ?_ ?_);exact gA)|((with_reducible refine Ob.intro ?_ ?_);exact gC)|(with_reducible first|refine br_lt ?_|refine br_lf ?_)|((with_reducible refine br_pos ?_ ?_);exact gB)|((with_reducible refine br_neg ?_ ?_);exact gB)|(with_reducible(refine br_t ?_ ?_;assumption))|(with_reducible(refine br_f ?_ ?_;assumption))|(with_reducible first|refine br_dec (fun h=>?_) fun h=>?_|refine br_not ?_|refine br_b (fun h=>?_) fun h=>?_)|((with_reducible first|refine wr_i64 rfl ?_ ?_ ?_|refine wr_u64 rfl ?_ ?_ ?_|refine wr_u32 rfl ?_ ?_ ?_);exact gB;exact gB)|(with_reducible first|refine And.intro ?_ ?_|refine True.intro|refine Stp.go ?_)))); (all_goals (conv => whnf))
  refine Jn.intro (Nat × Int) (fun g => ⟨5, [(0, tapeO raw g.1), (1, .arr 10 [encX w]), (2, .box [.v (.int .u32 0), .v (.int .u32 0), .v (.int .u8 0), .v (.int .u16 0), .v (.int .u16 0)]), (3, .box (celX w)), (4, .box [.v (.int .u32 (min y0 (topI 0))), .v (.int .u32 (min y1 (topI 1))), .v (.int .u32 (min y2 (topI 2))), .v (.int .u32 g.2), .v (.int .u32 0)])], [(0, .op 0 0), (4, .op 2 0), (5, .op 3 0), (6, .op 4 0), (7, .v (.int .i64 3))]⟩) (fun g => g.1 ≤ raw.length ∧ 0 ≤ g.2 ∧ g.2 ≤ 4294967295) ?_ ?_
  · (all_goals (repeat' ((conv => whnf); first | (with_reducible first|refine nNext raw _ _ (by omega) (by assumption) hr fun m1 p1 hm1 hp1 => ?_|refine cvHdr raw _ (by assumption) hr fun h p2 ho hp2 => ?_)|(refine in_c (by decide) ?_)|(with_reducible first|refine in_nat (by omega) ?_|refine wr_u32_any fun r r0 r1 => ?_)|(refine Ix.intro (by exact rfl) ?_)|(with_reducible first|refine cr3Top _ ?_|refine cvHd _ _ _ _ _ (by omega) (by omega) (by omega) (by omega) fun g ho => ?_)|(refine ix_5 (by omega) ⟨by omega, by omega, ⟨by assumption, by assumption⟩, ⟨by assumption, by assumption⟩, ⟨by assumption, by assumption⟩⟩ fun y y0 y1 => ?_)|((with_reducible refine sl_full ?_ ?_);exact gA)|((with_reducible refine Ob.intro ?_ ?_);exact gC)|(with_reducible first|refine br_lt ?_|refine br_lf ?_)|((with_reducible refine br_pos ?_ ?_);exact gB)|((with_reducible refine br_neg ?_ ?_);exact gB)|(with_reducible(refine br_t ?_ ?_;assumption))|(with_reducible(refine br_f ?_ ?_;assumption))|(with_reducible first|refine br_dec (fun h=>?_) fun h=>?_|refine br_not ?_|refine br_b (fun h=>?_) fun h=>?_)|((with_reducible first|refine wr_i64 rfl ?_ ?_ ?_|refine wr_u64 rfl ?_ ?_ ?_|refine wr_u32 rfl ?_ ?_ ?_);exact gB;exact gB)|(with_reducible first|refine And.intro ?_ ?_|refine True.intro|refine Stp.go ?_)))); (all_goals (conv => whnf))
    all_goals
      refine ⟨(p1, y), ⟨hp1, y0, y1⟩, ?_⟩
      (refine Le.auto ?_; repeat' ((conv => whnf); first | with_reducible refine And.intro ?_ ?_ | with_reducible exact True.intro | rfl))
  rintro ⟨q3, y3⟩ ⟨hq3, l3, u3⟩
  simp only at hq3 l3 u3 ⊢
  (all_goals (repeat' ((conv => whnf); first | (with_reducible first|refine nNext raw _ _ (by omega) (by assumption) hr fun m1 p1 hm1 hp1 => ?_|refine cvHdr raw _ (by assumption) hr fun h p2 ho hp2 => ?_)|(refine in_c (by decide) ?_)|(with_reducible first|refine in_nat (by omega) ?_|refine wr_u32_any fun r r0 r1 => ?_)|(refine Ix.intro (by exact rfl) ?_)|(with_reducible first|refine cr3Top _ ?_|refine cvHd _ _ _ _ _ (by omega) (by omega) (by omega) (by omega) fun g ho => ?_)|(refine ix_5 (by omega) ⟨by omega, by omega, ⟨by assumption, by assumption⟩, ⟨by assumption, by assumption⟩, ⟨by assumption, by assumption⟩⟩ fun y y0 y1 => ?_)|((with_reducible refine sl_full ?_ ?_);exact gA)|((with_reducible refine Ob.intro ?_ ?_);exact gC)|(with_reducible first|refine br_lt ?_|refine br_lf ?_)|((with_reducible refine br_pos ?_ ?_);exact gB)|((with_reducible refine br_neg ?_ ?_);exact gB)|(with_reducible(refine br_t ?_ ?_;assumption))|(with_reducible(refine br_f ?_ ?_;assumption))|(with_reducible first|refine br_dec (fun h=>?_) fun h=>?_|refine br_not ?_|refine br_b (fun h=>?_) fun h=>?_)|((with_reducible first|refine wr_i64 rfl ?_ ?_ ?_|refine wr_u64 rfl ?_ ?_ ?_|refine wr_u32 rfl ?_ ?_ ?_);exact gB;exact gB)|(with_reducible first|refine And.intro ?_ ?_|refine True.intro|refine Stp.go ?_)))); (all_goals (conv => whnf))
  refine Jn.intro (Nat × Int) (fun g => ⟨5, [(0, tapeO raw g.1), (1, .arr 10 [encX w]), (2, .box [.v (.int .u32 0), .v (.int .u32 0), .v (.int .u8 0), .v (.int .u16 0), .v (.int .u16 0)]), (3, .box (celX w)), (4, .box [.v (.int .u32 (min y0 (topI 0))), .v (.int .u32 (min y1 (topI 1))), .v (.int .u32 (min y2 (topI 2))), .v (.int .u32 (min y3 (topI 3))), .v (.int .u32 g.2)])], [(0, .op 0 0), (4, .op 2 0), (5, .op 3 0), (6, .op 4 0), (7, .v (.int .i64 4))]⟩) (fun g => g.1 ≤ raw.length ∧ 0 ≤ g.2 ∧ g.2 ≤ 4294967295) ?_ ?_
  · (all_goals (repeat' ((conv => whnf); first | (with_reducible first|refine nNext raw _ _ (by omega) (by assumption) hr fun m1 p1 hm1 hp1 => ?_|refine cvHdr raw _ (by assumption) hr fun h p2 ho hp2 => ?_)|(refine in_c (by decide) ?_)|(with_reducible first|refine in_nat (by omega) ?_|refine wr_u32_any fun r r0 r1 => ?_)|(refine Ix.intro (by exact rfl) ?_)|(with_reducible first|refine cr3Top _ ?_|refine cvHd _ _ _ _ _ (by omega) (by omega) (by omega) (by omega) fun g ho => ?_)|(refine ix_5 (by omega) ⟨by omega, by omega, ⟨by assumption, by assumption⟩, ⟨by assumption, by assumption⟩, ⟨by assumption, by assumption⟩⟩ fun y y0 y1 => ?_)|((with_reducible refine sl_full ?_ ?_);exact gA)|((with_reducible refine Ob.intro ?_ ?_);exact gC)|(with_reducible first|refine br_lt ?_|refine br_lf ?_)|((with_reducible refine br_pos ?_ ?_);exact gB)|((with_reducible refine br_neg ?_ ?_);exact gB)|(with_reducible(refine br_t ?_ ?_;assumption))|(with_reducible(refine br_f ?_ ?_;assumption))|(with_reducible first|refine br_dec (fun h=>?_) fun h=>?_|refine br_not ?_|refine br_b (fun h=>?_) fun h=>?_)|((with_reducible first|refine wr_i64 rfl ?_ ?_ ?_|refine wr_u64 rfl ?_ ?_ ?_|refine wr_u32 rfl ?_ ?_ ?_);exact gB;exact gB)|(with_reducible first|refine And.intro ?_ ?_|refine True.intro|refine Stp.go ?_)))); (all_goals (conv => whnf))
    all_goals
      refine ⟨(p1, y), ⟨hp1, y0, y1⟩, ?_⟩
      (refine Le.auto ?_; repeat' ((conv => whnf); first | with_reducible refine And.intro ?_ ?_ | with_reducible exact True.intro | rfl))
  rintro ⟨q4, y4⟩ ⟨hq4, l4, u4⟩
  simp only at hq4 l4 u4 ⊢
  have e0 : topI 0 = 4294967295 := by decide
  have e1 : topI 1 = 4294967295 := by decide
  have e2 : topI 2 = 255 := by decide
  have e3 : topI 3 = 65535 := by decide
  have e4 : topI 4 = 65535 := by decide
  (all_goals (repeat' ((conv => whnf); first | (with_reducible first|refine nNext raw _ _ (by omega) (by assumption) hr fun m1 p1 hm1 hp1 => ?_|refine cvHdr raw _ (by assumption) hr fun h p2 ho hp2 => ?_)|(refine in_c (by decide) ?_)|(with_reducible first|refine in_nat (by omega) ?_|refine wr_u32_any fun r r0 r1 => ?_)|(refine Ix.intro (by exact rfl) ?_)|(with_reducible first|refine cr3Top _ ?_|refine cvHd _ _ _ _ _ (by omega) (by omega) (by omega) (by omega) fun g ho => ?_)|(refine ix_5 (by omega) ⟨by omega, by omega, ⟨by assumption, by assumption⟩, ⟨by assumption, by assumption⟩, ⟨by assumption, by assumption⟩⟩ fun y y0 y1 => ?_)|((with_reducible refine sl_full ?_ ?_);exact gA)|((with_reducible refine Ob.intro ?_ ?_);exact gC)|(with_reducible first|refine br_lt ?_|refine br_lf ?_)|((with_reducible refine br_pos ?_ ?_);exact gB)|((with_reducible refine br_neg ?_ ?_);exact gB)|(with_reducible(refine br_t ?_ ?_;assumption))|(with_reducible(refine br_f ?_ ?_;assumption))|(with_reducible first|refine br_dec (fun h=>?_) fun h=>?_|refine br_not ?_|refine br_b (fun h=>?_) fun h=>?_)|((with_reducible first|refine wr_i64 rfl ?_ ?_ ?_|refine wr_u64 rfl ?_ ?_ ?_|refine wr_u32 rfl ?_ ?_ ?_);exact gB;exact gB)|(with_reducible first|refine And.intro ?_ ?_|refine True.intro|refine Stp.go ?_)))); (all_goals (conv => whnf))
  exact hK _ _ (by assumption) (by assumption)
end Go.Proofs.YtokmdghjgegclaaGreatDoor

set_option linter.unusedVariables false
set_option linter.unusedSimpArgs false
set_option maxRecDepth 20000
namespace Go.Proofs.YtokmdghjgegclaaGreatDoor
open Go Go.Vm

noncomputable abbrev cI (v : Nat) : AV := .v (.int .i64 (v : Nat))
def hasE (t : Tp) (i : Int) : Bool := decide (0 ≤ i) && decide (i < t.edges.length)
noncomputable def wholeZ (t : Tp) (a b : Int) : Bx := if compB t = true ∧ hasE t a = true ∧ hasE t b = true then whoT t a b else zB
theorem hasE_get {t : Tp} {i : Int} (h : hasE t i = true) : ∃ (n : Nat) (e : Ed), i = n ∧ t.edges[n]? = some e := by
  simp only [hasE, Bool.and_eq_true, decide_eq_true_eq] at h
  have hl : i.toNat < t.edges.length := by omega
  exact ⟨i.toNat, _, by omega, List.getElem?_eq_getElem hl⟩
theorem comp_dev {t : Tp} (h : compB t = true) : DevIn t ∧ t.devs.length ≤ 12 ∧ t.edges.length ≤ 12 ∧ 1 ≤ t.devs.length := by
  have ht := (compB_iff.1 h).1
  refine ⟨fun e he => ?_, ht.d1, ht.e1, ht.d0⟩
  obtain ⟨i, hi⟩ := List.mem_iff_getElem?.1 he
  have := (ht.edge i e hi).1
  unfold edgeOk at this
  omega
theorem pairP_len (t : Tp) (p : Pol) (a b : Int) : (pairP t p a b).1.length ≤ 4096 := by
  unfold pairP
  split
  · exact Nat.zero_le _
  · split
    · exact Nat.zero_le _
    · split
      · exact Nat.zero_le _
      · split
        · exact combP_len _ _ _
        · exact Nat.zero_le _
theorem preI_mem {n a b : Nat} (ha : a ≤ n) (hb : b ≤ n) (hab : b = 0 ∨ a < n) : ∀ q, q ∈ preI n a b → q.1 < n ∧ q.2 < n := by
  intro q hq
  rw [preI] at hq
  rcases List.mem_append.1 hq with hq | hq
  · obtain ⟨i, hi, hq⟩ := List.mem_flatMap.1 hq
    obtain ⟨j, hj, rfl⟩ := List.mem_map.1 hq
    rw [List.mem_range] at hi hj
    exact ⟨by simp only; omega, hj⟩
  · obtain ⟨j, hj, rfl⟩ := List.mem_map.1 hq
    rw [List.mem_range] at hj
    exact ⟨by simp only; omega, by simp only; omega⟩
theorem preI_pre {n a b : Nat} (ha : a < n) (hb : b ≤ n) : ∃ r, idxI n = preI n a b ++ r := by
  have h1 : ∀ d, ∃ r, preI n (a + 1 + d) 0 = preI n (a + 1) 0 ++ r := by
    intro d
    induction d with
    | zero => exact ⟨[], by simp⟩
    | succ d ih =>
      obtain ⟨r, hr⟩ := ih
      refine ⟨r ++ (List.range n).map fun j => (a + 1 + d, j), ?_⟩
      rw [← List.append_assoc, ← hr]
      simp [preI, ← Nat.add_assoc, List.range_succ]
  have h2 : ∀ d, ∃ r, preI n a (b + d) = preI n a b ++ r := by
    intro d
    induction d with
    | zero => exact ⟨[], by simp⟩
    | succ d ih =>
      obtain ⟨r, hr⟩ := ih
      exact ⟨r ++ [(a, b + d)], by rw [← Nat.add_assoc, preI_succ, hr, List.append_assoc]⟩
  obtain ⟨r1, e1⟩ := h1 (n - (a + 1))
  obtain ⟨r2, e2⟩ := h2 (n - b)
  rw [show a + 1 + (n - (a + 1)) = n by omega] at e1
  rw [show b + (n - b) = n by omega, preI_row] at e2
  exact ⟨r2 ++ r1, by rw [idxI, e1, e2, List.append_assoc]⟩
theorem pairsOf_in {t : Tp} {p : Pol} {l : List (Nat × Nat)} (h : ∀ q, q ∈ l → q.1 < t.edges.length ∧ q.2 < t.edges.length) : ∀ x, x ∈ pairsOf t p l → PlIn t x ∧ x.eg = false := by
  intro x hx
  rw [pairsOf, List.mem_filterMap] at hx
  obtain ⟨q, hq, hx⟩ := hx
  split at hx
  · cases hx
  · have := h q hq
    cases hx
    exact ⟨⟨by simp only; omega, by simp only; omega, by simp only; omega, by simp only; omega, pairP_len ..⟩, rfl⟩
theorem fitsP_iff {t : Tp} {l : List Nat} : fitsP t l = true ↔ ∀ (i : Nat) d v, t.devs[i]? = some d → l[i]? = some v → (v : Int) ≤ d.cap := by
  unfold fitsP
  rw [List.all_eq_true]
  constructor
  · intro h i d v hd hv
    have := h (d, v) (List.mem_of_getElem? (i := i) (by rw [List.getElem?_zip_eq_some]; exact ⟨hd, hv⟩))
    simpa using this
  · rintro h ⟨d, v⟩ hm
    obtain ⟨i, hi⟩ := List.mem_iff_getElem?.1 hm
    rw [List.getElem?_zip_eq_some] at hi
    simpa using h i d v hi.1 hi.2
end Go.Proofs.YtokmdghjgegclaaGreatDoor

set_option linter.unusedVariables false
set_option linter.unusedSimpArgs false
set_option maxRecDepth 20000
namespace Go.Proofs.YtokmdghjgegclaaGreatDoor
open Go Go.Vm

def nmLB (b : UInt8) : Bool := Nat.ble 97 b.toNat && Nat.ble b.toNat 122
def nmCB (b : UInt8) : Bool := nmLB b || (Nat.ble 48 b.toNat && Nat.ble b.toNat 57) || Nat.beq b.toNat 45 || Nat.beq b.toNat 95
def nmChk (l : List UInt8) : Bool := match l with
  | [] => false
  | a :: r => nmLB a && (r.all nmCB && (Nat.ble r.length 23 && !(l == [97, 110, 121])))
theorem nmLB_spec {b : UInt8} (h : nmLB b = true) : nmL (b.toNat : Int) := by
  simp only [nmLB, Bool.and_eq_true] at h
  have h1 := Nat.le_of_ble_eq_true h.1; have h2 := Nat.le_of_ble_eq_true h.2
  unfold nmL; omega
theorem nmCB_spec {b : UInt8} (h : nmCB b = true) : nmC (b.toNat : Int) := by
  simp only [nmCB, Bool.or_eq_true, Bool.and_eq_true] at h
  unfold nmC
  rcases h with ((h | ⟨h1, h2⟩) | h) | h
  · have := nmLB_spec h; unfold nmL at this; omega
  · have h1 := Nat.le_of_ble_eq_true h1; have h2 := Nat.le_of_ble_eq_true h2; omega
  · have := Nat.eq_of_beq_eq_true h; omega
  · have := Nat.eq_of_beq_eq_true h; omega
/-- a literal that is a name -/
theorem nameOk_lit (l : List UInt8) (h : nmChk l = true) : nameOk ⟨⟨l⟩⟩ := by
  cases l with
  | nil => cases h
  | cons a r =>
    simp only [nmChk, Bool.and_eq_true, List.all_eq_true, Bool.not_eq_true'] at h
    obtain ⟨h1, h2, h3, h4⟩ := h
    have h3 := Nat.le_of_ble_eq_true h3
    have hget : ∀ (i : Nat) b, (⟨⟨a :: r⟩⟩ : ByteArray)[i]? = some b → (a :: r)[i]? = some b := by
      intro i b hb
      by_cases h : i < (⟨⟨a :: r⟩⟩ : ByteArray).size
      · rw [getElem?_pos _ i h] at hb
        have h' : i < (a :: r).length := h
        rw [List.getElem?_eq_getElem h']
        exact hb
      · rw [getElem?_neg _ i h] at hb; cases hb
    refine ⟨?_, ?_, ?_, fun b hb => ?_, fun i b hb => ?_⟩
    · rw [ByteArray.toList_eq, ByteArray.toList_eq]; rfl
    · show (((a :: r).length : Nat) : Int) ≤ 24
      simp; omega
    · rw [ByteArray.toList_eq, ByteArray.toList_eq]
      exact h4
    · have := hget 0 b hb
      simp at this; subst this
      exact nmLB_spec h1
    · have := hget i b hb
      cases i with
      | zero => simp at this; subst this; exact nmCB_spec (by simp [nmCB, h1])
      | succ i => exact nmCB_spec (h2 b (List.mem_of_getElem? (by simpa using this)))
end Go.Proofs.YtokmdghjgegclaaGreatDoor

set_option linter.unusedVariables false
set_option linter.unusedSimpArgs false
set_option maxRecDepth 20000
set_option maxHeartbeats 4000000
namespace Go.Proofs.YtokmdghjgegclaaGreatDoor
open Go Go.Vm

structure GPe (n i : Nat) (e : Ed) : Prop where
  name : e.name = enL.getD i default
  d0 : 0 ≤ e.dev
  d1 : e.dev < n
  zone : e.zone ∈ zoL
  pf : (e.pl = false ∧ e.pf = subL.getD i noPf) ∨ (e.pl = true ∧ e.pf.addr = 0 ∧ e.pf.bits ∈ [24, 23, 25, 22, 26, 32, 30])
structure GPla (t : Tp) : Prop where
  d1 : 1 ≤ t.devs.length
  d6 : t.devs.length ≤ 6
  dv : ∀ (i : Nat) d, t.devs[i]? = some d → GDv i d
  l9 : t.links.length ≤ 8
  lk : ∀ l, l ∈ t.links → GLk t.devs.length l
  e5 : t.edges.length ≤ 5
  ed : ∀ (i : Nat) e, t.edges[i]? = some e → GPe t.devs.length i e
  pools : t.pools = [pool1] ∨ t.pools = [pool2] ∨ t.pools = [pool1, pool2]
  tol : t.tol ∈ [0, 1, 0, 1, 2]
end Go.Proofs.YtokmdghjgegclaaGreatDoor

set_option linter.unusedVariables false
set_option linter.unusedSimpArgs false
set_option maxRecDepth 20000
namespace Go.Proofs.YtokmdghjgegclaaGreatDoor
open Go Go.Vm

theorem sEq_data (a b : ByteArray) : sEq a b = (a.data.toList == b.data.toList) := by rw [sEq, ByteArray.toList_eq, ByteArray.toList_eq]
theorem nameOk_data {s : ByteArray} (h : nmChk s.data.toList = true) : nameOk s := by
  obtain ⟨⟨l⟩⟩ := s
  exact nameOk_lit l h
theorem rn_ok {i : Nat} (h : i < 6) : nameOk (rnL.getD i default) := nameOk_data (by
  have : ∀ i : Fin 6, nmChk (rnL.getD i.val default).data.toList = true := by decide
  exact this ⟨i, h⟩)
theorem rn_ne {i j : Nat} (h : i < 6) (hj : j < i) : sEq (rnL.getD j default) (rnL.getD i default) = false := by
  have : ∀ i j : Fin 6, j.val < i.val → ((rnL.getD j.val default).data.toList == (rnL.getD i.val default).data.toList) = false := by decide
  rw [sEq_data]; exact this ⟨i, h⟩ ⟨j, by omega⟩ hj
theorem en_ok {i : Nat} (h : i < 5) : nameOk (enL.getD i default) := nameOk_data (by
  have : ∀ i : Fin 5, nmChk (enL.getD i.val default).data.toList = true := by decide
  exact this ⟨i, h⟩)
theorem en_ne {i j : Nat} (h : i < 5) (hj : j < i) : sEq (enL.getD j default) (enL.getD i default) = false := by
  have : ∀ i j : Fin 5, j.val < i.val → ((enL.getD j.val default).data.toList == (enL.getD i.val default).data.toList) = false := by decide
  rw [sEq_data]; exact this ⟨i, h⟩ ⟨j, by omega⟩ hj
theorem sEq_refl (a : ByteArray) : sEq a a = true := by rw [sEq_data]; simp
theorem zo_ok {s : ByteArray} (h : s ∈ zoL) : nameOk s := nameOk_data (by
  have : ∀ s, s ∈ zoL → nmChk s.data.toList = true := by
    intro s hs
    simp only [zoL, List.mem_cons, List.not_mem_nil, or_false] at hs
    rcases hs with rfl | rfl | rfl <;> decide
  exact this s h)
theorem cl_ok {s : ByteArray} (h : s ∈ clL) : sEq s ⟨#[]⟩ = true ∨ nameOk s := by
  simp only [clL, List.mem_cons, List.not_mem_nil, or_false] at h
  rcases h with rfl | rfl | rfl
  · exact .inl (sEq_refl _)
  · exact .inr (nameOk_data (by decide))
  · exact .inr (nameOk_data (by decide))
theorem sub_ok {i : Nat} (h : i < 5) : (subL.getD i noPf).okP ∧ 1 ≤ (subL.getD i noPf).bits := by
  have : ∀ i : Fin 5, (subL.getD i.val noPf).okP ∧ 1 ≤ (subL.getD i.val noPf).bits := by decide
  exact this ⟨i, h⟩
theorem sub_apart {i j : Nat} (h : i < 5) (hj : j < i) : (subL.getD i noPf).meet (subL.getD j noPf) = false := by
  have : ∀ i j : Fin 5, j.val < i.val → (subL.getD i.val noPf).meet (subL.getD j.val noPf) = false := by decide
  exact this ⟨i, h⟩ ⟨j, by omega⟩ hj
theorem plan_bits {b : Int} (h : b ∈ [(24 : Int), 23, 25, 22, 26, 32, 30]) : 22 ≤ b ∧ b ≤ 32 := by
  simp only [List.mem_cons, List.not_mem_nil, or_false] at h
  omega
theorem topOk_pla {t : Tp} (g : GPla t) : TopOk t := by
  have hd6 := g.d6; have he5 := g.e5; have hl9 := g.l9
  have htol := g.tol
  simp only [List.mem_cons, List.not_mem_nil, or_false] at htol
  refine ⟨g.d1, by omega, by omega, by omega, by rcases g.pools with h | h | h <;> rw [h] <;> decide, by omega, by omega, fun i d hi => ?_, fun i l hi => ?_, fun i e hi => ?_, fun i e hi j o hj ho => ?_, fun i p hi => ?_⟩
  · have hlt := (List.getElem?_eq_some_iff.1 hi).1
    obtain ⟨h1, h2, h3⟩ := g.dv i d hi
    simp only [List.mem_cons, List.not_mem_nil, or_false] at h2
    refine ⟨⟨by rw [h1]; exact rn_ok (by omega), by omega, by omega, cl_ok h3⟩, ?_⟩
    refine firstIx_at hi (sEq_refl _) fun j y hj hy => ?_
    rw [(g.dv j y hy).name, h1]
    exact rn_ne (by omega) hj
  · obtain ⟨h1, h2, h3, h4⟩ := g.lk l (List.mem_of_getElem? hi)
    simp only [List.mem_cons, List.not_mem_nil, or_false] at h4
    exact ⟨h1, h2, h3, by omega, by omega⟩
  · have hlt := (List.getElem?_eq_some_iff.1 hi).1
    obtain ⟨h1, h2, h3, h4, h5⟩ := g.ed i e hi
    refine ⟨⟨by rw [h1]; exact en_ok (by omega), zo_ok h4, h2, h3, ?_⟩, ?_⟩
    · rcases h5 with ⟨p1, p2⟩ | ⟨p1, p2, p3⟩
      · have := sub_ok (i := i) (by omega)
        rw [p2]; exact ⟨this.2, this.1, .inl p1⟩
      · have := plan_bits p3
        refine ⟨by omega, ⟨by omega, by omega, by rw [p2]; exact Int.zero_emod _⟩, .inr p2⟩
    · refine firstIx_at hi (sEq_refl _) fun j y hj hy => ?_
      rw [(g.ed j y hy).name, h1]
      exact en_ne (by omega) hj
  · rintro ⟨q1, q2, q3⟩
    have hlt := (List.getElem?_eq_some_iff.1 hi).1
    rcases (g.ed i e hi).pf with ⟨_, p2⟩ | ⟨p1, _⟩
    · rcases (g.ed j o ho).pf with ⟨_, r2⟩ | ⟨r1, _⟩
      · rw [p2, r2, sub_apart (by omega) hj] at q3; cases q3
      · rw [r1] at q2; cases q2
    · rw [p1] at q1; cases q1
  · rcases g.pools with h | h | h <;> rw [h] at hi ⊢
    · match i, hi with
      | 0, hi => simp at hi; subst hi; exact ⟨by decide, fun j q hj => absurd hj (Nat.not_lt_zero _)⟩
      | i + 1, hi => simp at hi
    · match i, hi with
      | 0, hi => simp at hi; subst hi; exact ⟨by decide, fun j q hj => absurd hj (Nat.not_lt_zero _)⟩
      | i + 1, hi => simp at hi
    · match i, hi with
      | 0, hi => simp at hi; subst hi; exact ⟨by decide, fun j q hj => absurd hj (Nat.not_lt_zero _)⟩
      | 1, hi =>
        simp at hi; subst hi
        refine ⟨by decide, fun j q hj hq => ?_⟩
        have : j = 0 := by omega
        subst this
        simp at hq; subst hq
        decide
      | i + 2, hi => simp at hi
end Go.Proofs.YtokmdghjgegclaaGreatDoor

set_option linter.unusedVariables false
set_option linter.unusedSimpArgs false
set_option maxRecDepth 20000
namespace Go.Proofs.YtokmdghjgegclaaGreatDoor
open Go Go.Vm

theorem topOk_top {t : Tp} (g : GTop t) : TopOk t := by
  have h : GPla { t with pools := [pool1] } := ⟨g.d1, g.d6, g.dv, g.l9, g.lk, g.e5, fun i e hi => by
    obtain ⟨h1, h2, h3, h4, h5, h6⟩ := g.ed i e hi
    exact ⟨h1, h2, h3, h4, .inl ⟨h6, h5⟩⟩, .inl rfl, g.tol⟩
  have k := topOk_pla h
  rcases g.pools with hp | hp | hp | hp
  · exact ⟨k.d0, k.d1, k.l1, k.e1, by rw [hp]; decide, k.t0, k.t1, k.dev, k.link, k.edge, k.apart, fun i p hi => by rw [hp] at hi; cases hi⟩
  all_goals exact topOk_pla ⟨g.d1, g.d6, g.dv, g.l9, g.lk, g.e5, h.ed, by simp [hp], g.tol⟩
theorem comp_top {t : Tp} (g : GTop t) : compB t = true := by
  simp only [compB, topB_true (topOk_top g), Bool.true_and, Bool.not_eq_true']
  rw [List.any_eq_false]
  intro e he
  obtain ⟨i, hi⟩ := List.mem_iff_getElem?.1 he
  rw [(g.ed i e hi).pl]; decide
def pfA : Pf := ⟨167772160, 24, by decide, by decide⟩
def pfB : Pf := ⟨2886729728, 16, by decide, by decide⟩
def netT (a b : Int) : Tp := ⟨[⟨⟨#[114]⟩, a, false, false, ⟨#[]⟩⟩, ⟨⟨#[115]⟩, b, false, false, ⟨#[]⟩⟩], [⟨0, 1, 1⟩], [⟨⟨#[97]⟩, 0, ⟨#[108, 97, 110]⟩, pfA, false⟩, ⟨⟨#[98]⟩, 1, ⟨#[100, 109, 122]⟩, pfB, false⟩], [], 0⟩
theorem topOk_net {a b : Int} (a0 : 0 ≤ a) (a1 : a ≤ 4096) (b0 : 0 ≤ b) (b1 : b ≤ 4096) : TopOk (netT a b) := by
  refine ⟨by simp [netT], by simp [netT], by simp [netT], by simp [netT], by simp [netT], by simp [netT], by simp [netT], ?_, ?_, ?_, ?_, ?_⟩
  · intro i d hi
    match i, hi with
    | 0, hi =>
      simp [netT] at hi; subst hi
      exact ⟨⟨nameOk_data (s := ⟨#[114]⟩) (by decide), a0, a1, .inl (sEq_refl _)⟩, firstIx_at (k := 0) rfl (sEq_refl _) (fun j y hj => absurd hj (Nat.not_lt_zero _))⟩
    | 1, hi =>
      simp [netT] at hi; subst hi
      refine ⟨⟨nameOk_data (s := ⟨#[115]⟩) (by decide), b0, b1, .inl (sEq_refl _)⟩, firstIx_at (k := 1) rfl (sEq_refl _) (fun j y hj hy => ?_)⟩
      obtain rfl : j = 0 := by omega
      simp [netT] at hy; subst hy
      rw [sEq_data]; rfl
    | i + 2, hi => simp [netT] at hi
  · intro i l hi
    match i, hi with
    | 0, hi => simp [netT] at hi; subst hi; simp [linkOk, netT]
    | i + 1, hi => simp [netT] at hi
  · intro i e hi
    match i, hi with
    | 0, hi =>
      simp [netT] at hi; subst hi
      exact ⟨⟨nameOk_data (by decide), nameOk_data (by decide), by decide, by simp [netT], by decide, by decide, by decide⟩, firstIx_at (k := 0) rfl (sEq_refl _) (fun j y hj => absurd hj (Nat.not_lt_zero _))⟩
    | 1, hi =>
      simp [netT] at hi; subst hi
      refine ⟨⟨nameOk_data (by decide), nameOk_data (by decide), by decide, by simp [netT], by decide, by decide, by decide⟩, firstIx_at (k := 1) rfl (sEq_refl _) (fun j y hj hy => ?_)⟩
      obtain rfl : j = 0 := by omega
      simp [netT] at hy; subst hy
      rw [sEq_data]; rfl
    | i + 2, hi => simp [netT] at hi
  · rintro i e hi j o hj ho ⟨_, _, h3⟩
    match i, hi, j, ho with
    | 0, hi, j, ho => omega
    | 1, hi, 0, ho => simp [netT] at hi ho; subst hi; subst ho; revert h3; decide
    | 1, hi, j + 1, ho => omega
    | i + 2, hi, j, ho => simp [netT] at hi
  · intro i p hi
    simp [netT] at hi
theorem comp_net {a b : Int} (a0 : 0 ≤ a) (a1 : a ≤ 4096) (b0 : 0 ≤ b) (b1 : b ≤ 4096) : compB (netT a b) = true := by
  rw [compB, topB_true (topOk_net a0 a1 b0 b1)]; rfl
def sanB (p : Int) : Bx := ⟨mkR 167772160 167772415, mkR 2886729728 2886795263, mkR 6 6, mkR 0 65535, mkR p p⟩
def sanP : Pol := ⟨[sanB 80, sanB 443], []⟩
theorem san_set : setB sanP.allow = true := by decide +kernel
theorem san_sub (a b : Int) : subB sanP.allow (pairsB (netT a b).edges) = true := by
  have : subB sanP.allow (pairsB (netT 1 1).edges) = true := by decide +kernel
  exact this
theorem san_init : subB sanP.allow initS = true := by decide +kernel
theorem san_ab : combP anB sanP.allow [whoB pfA pfB] = ([sanB 80, sanB 443], 0) := by decide +kernel
theorem san_ba : combP anB sanP.allow [whoB pfB pfA] = ([], 0) := by decide +kernel
theorem polOk_san {a b : Int} (a0 : 0 ≤ a) (a1 : a ≤ 4096) (b0 : 0 ≤ b) (b1 : b ≤ 4096) : PolOk (netT a b) sanP :=
  ⟨comp_net a0 a1 b0 b1, san_set, san_sub a b, san_init, fun n x h => by simp [sanP] at h⟩
theorem pair_00 {a b : Int} : pairP (netT a b) sanP (0 : Nat) (0 : Nat) = ([], if compB (netT a b) = false then 1 else 0) := by
  unfold pairP; split <;> simp_all [netT]
theorem pair_11 {a b : Int} : pairP (netT a b) sanP (1 : Nat) (1 : Nat) = ([], if compB (netT a b) = false then 1 else 0) := by
  unfold pairP; split <;> simp_all [netT]
theorem pair_01 {a b : Int} (h : compB (netT a b) = true) : pairP (netT a b) sanP (0 : Nat) (1 : Nat) = ([sanB 80, sanB 443], 0) := by
  unfold pairP; rw [if_neg (by simp [h]), if_neg (by simp [netT]), if_neg (by decide)]; exact san_ab
theorem pair_10 {a b : Int} (h : compB (netT a b) = true) : pairP (netT a b) sanP (1 : Nat) (0 : Nat) = ([], 0) := by
  unfold pairP; rw [if_neg (by simp [h]), if_neg (by simp [netT]), if_neg (by decide)]; exact san_ba
def sanL (eg : Bool) : Pl := ⟨0, 1, eg, [sanB 80, sanB 443]⟩
theorem san_pairs {a b : Int} (h : compB (netT a b) = true) : pairsOf (netT a b) sanP (idxI 2) = [sanL false] := by
  rw [show idxI 2 = [(0, 0), (0, 1), (1, 0), (1, 1)] from rfl]
  simp only [pairsOf, List.filterMap_cons, List.filterMap_nil, pair_00, pair_01 h, pair_10 h, pair_11]
  rfl
theorem san_err {a b : Int} (h : compB (netT a b) = true) : errOf (netT a b) sanP (idxI 2) = 0 := by
  rw [show idxI 2 = [(0, 0), (0, 1), (1, 0), (1, 1)] from rfl]
  simp only [errOf, pair_00, pair_01 h, pair_10 h, pair_11, h]
  decide
theorem san_place {a b : Int} (a0 : 0 ≤ a) (a1 : a ≤ 4096) (b0 : 0 ≤ b) (b1 : b ≤ 4096) : placeP (netT a b) sanP = match placeGo (netT a b) [sanL false] ([], [0, 0]) with
    | some s => (s.1, 0)
    | none => ([], 9) := by
  have h := comp_net a0 a1 b0 b1
  unfold placeP
  rw [polB_true (polOk_san a0 a1 b0 b1), if_neg (by decide), show (netT a b).edges.length = 2 from rfl, san_err h, if_neg (by decide), san_pairs h]
  rfl
theorem san_1 : placeP (netT 1 9) sanP = ([sanL true], 0) := by
  rw [san_place (by decide) (by decide) (by decide) (by decide), show placeGo (netT 1 9) [sanL false] ([], [0, 0]) = some ([sanL true], [1, 2]) by kernel_rfl]
theorem san_2 : placeP (netT 9 9) sanP = ([sanL false], 0) := by
  rw [san_place (by decide) (by decide) (by decide) (by decide), show placeGo (netT 9 9) [sanL false] ([], [0, 0]) = some ([sanL false], [2, 1]) by kernel_rfl]
theorem san_3 : placeP (netT 0 9) sanP = ([], 9) := by
  rw [san_place (by decide) (by decide) (by decide) (by decide), show placeGo (netT 0 9) [sanL false] ([], [0, 0]) = none by kernel_rfl]
theorem san_pls : plsB (netT 1 9) [sanL true] = true := by
  refine plsB_true ⟨comp_net (by decide) (by decide) (by decide) (by decide), fun i x hi => ?_⟩
  match i, hi with
  | 0, hi =>
    simp at hi; subst hi
    exact ⟨by decide, by decide, by decide, by decide, by decide, by simp [sanL], san_set, fun k y h => by omega, by decide +kernel⟩
  | i + 1, hi => simp at hi
theorem san_costs : costsP (netT 1 9) [sanL true] = [1, 2] := by
  rw [costsP, if_pos san_pls]; decide +kernel
theorem san_who : wholeZ (netT 1 1) 0 1 = whoB pfA pfB := by
  rw [wholeZ, if_pos ⟨comp_net (by decide) (by decide) (by decide) (by decide), by decide, by decide⟩]; rfl
end Go.Proofs.YtokmdghjgegclaaGreatDoor

set_option linter.unusedVariables false
set_option maxRecDepth 20000
namespace Go.Proofs.YtokmdghjgegclaaGreatDoor
open Go Go.Vm

/-- netsegment/placement.edge -/
noncomputable def gzEdge : Ctx := { N := 14, np := 0, own := fun _ => false, plan := fun _ => none, hints := fun _ => [], cut := fun _ => false }
noncomputable def bzEdge : Code := match Tryz.f58.body with | some c => c | none => .skip
theorem ofzEdge {args : List AV} {hs : List Vm.Obj} {K : AV → List Vm.Obj → Prop} (hp : Nat.beq gzEdge.np hs.length = true) (ha : Nat.ble args.length 14 = true) (hq : initQ hs args fun σ => codeQ Tryz.prog gzEdge bzEdge σ (retQ Tryz.prog gzEdge Tryz.f58.results.toList K)) : ACall Tryz.prog 58 args hs K :=
  ACall.of_code (Γ := gzEdge) Tryz.func58 (by kernel_rfl) (by kernel_rfl) (by kernel_rfl) (by kernel_rfl) (Nat.eq_of_beq_eq_true hp) ha hq
/-- netsegment/placement.Whole -/
noncomputable def gzWho : Ctx := { N := 48, np := 0, own := fun _ => false, plan := fun _ => none, hints := fun _ => [], cut := fun _ => false }
noncomputable def bzWho : Code := match Tryz.f27.body with | some c => c | none => .skip
theorem ofzWho {args : List AV} {hs : List Vm.Obj} {K : AV → List Vm.Obj → Prop} (hp : Nat.beq gzWho.np hs.length = true) (ha : Nat.ble args.length 48 = true) (hq : initQ hs args fun σ => codeQ Tryz.prog gzWho bzWho σ (retQ Tryz.prog gzWho Tryz.f27.results.toList K)) : ACall Tryz.prog 27 args hs K :=
  ACall.of_code (Γ := gzWho) Tryz.func27 (by kernel_rfl) (by kernel_rfl) (by kernel_rfl) (by kernel_rfl) (Nat.eq_of_beq_eq_true hp) ha hq
/-- (netsegment/placement.load).with -/
noncomputable def gzWith : Ctx := { N := 60, np := 0, own := fun _ => false, plan := fun i => match Nat.beq i 1 with | true => some (lin [(0, true), (1, true), (2, true), (3, true), (4, true), (5, true), (6, true), (7, true), (8, true), (9, true), (10, true), (11, true), (12, true), (13, true), (14, true), (15, true)]) | false => match Nat.beq i 4 with | true => some (lin [(0, true), (1, true), (2, true), (3, true), (4, true), (5, true), (6, true), (7, true), (8, true), (9, true), (10, true), (11, false), (12, true), (13, true), (14, false)]) | false => match Nat.beq i 5 with | true => some (lin [(0, true), (1, true), (2, true), (3, true), (4, true), (5, true), (6, true), (7, true), (9, true), (10, true), (11, true), (12, true), (13, true), (14, true), (8, false), (15, false), (16, true), (17, true), (18, false)]) | false => none, hints := fun _ => [], cut := fun i => match Nat.beq i 4 with | true => true | false => match Nat.beq i 5 with | true => true | false => false }
noncomputable def bzWith : Code := match Tryz.f55.body with | some c => c | none => .skip
theorem ofzWith {args : List AV} {hs : List Vm.Obj} {K : AV → List Vm.Obj → Prop} (hp : Nat.beq gzWith.np hs.length = true) (ha : Nat.ble args.length 60 = true) (hq : initQ hs args fun σ => codeQ Tryz.prog gzWith bzWith σ (retQ Tryz.prog gzWith Tryz.f55.results.toList K)) : ACall Tryz.prog 55 args hs K :=
  ACall.of_code (Γ := gzWith) Tryz.func55 (by kernel_rfl) (by kernel_rfl) (by kernel_rfl) (by kernel_rfl) (Nat.eq_of_beq_eq_true hp) ha hq
/-- (netsegment/placement.load).fits -/
noncomputable def gzFits : Ctx := { N := 22, np := 0, own := fun _ => false, plan := fun i => match Nat.beq i 4 with | true => some (lin [(0, true), (1, true), (2, true), (3, true), (4, true), (5, true)]) | false => none, hints := fun _ => [], cut := fun _ => false }
noncomputable def bzFits : Code := match Tryz.f56.body with | some c => c | none => .skip
theorem ofzFits {args : List AV} {hs : List Vm.Obj} {K : AV → List Vm.Obj → Prop} (hp : Nat.beq gzFits.np hs.length = true) (ha : Nat.ble args.length 22 = true) (hq : initQ hs args fun σ => codeQ Tryz.prog gzFits bzFits σ (retQ Tryz.prog gzFits Tryz.f56.results.toList K)) : ACall Tryz.prog 56 args hs K :=
  ACall.of_code (Γ := gzFits) Tryz.func56 (by kernel_rfl) (by kernel_rfl) (by kernel_rfl) (by kernel_rfl) (Nat.eq_of_beq_eq_true hp) ha hq
/-- netsegment/placement.Place -/
noncomputable def gzPlace : Ctx := { N := 87, np := 0, own := fun _ => false, plan := fun i => match Nat.beq i 21 with | true => some (.one 0 true (.one 1 true (.one 2 true (.one 3 true (.one 4 true (.one 5 true (.alt 6 (.one 7 false (.one 8 false (.done))) (.alt 7 (.one 6 false (.one 8 false (.done))) (.stop))))))))) | false => match Nat.beq i 24 with | true => some (lin [(0, true), (1, true), (2, true), (3, true), (4, true), (5, true), (6, false), (7, false)]) | false => none, hints := fun i => match Nat.beq i 4 with | true => [.virt 6 4] | false => [], cut := fun _ => false }
noncomputable def bzPlace : Code := match Tryz.f21.body with | some c => c | none => .skip
theorem ofzPlace {args : List AV} {hs : List Vm.Obj} {K : AV → List Vm.Obj → Prop} (hp : Nat.beq gzPlace.np hs.length = true) (ha : Nat.ble args.length 87 = true) (hq : initQ hs args fun σ => codeQ Tryz.prog gzPlace bzPlace σ (retQ Tryz.prog gzPlace Tryz.f21.results.toList K)) : ACall Tryz.prog 21 args hs K :=
  ACall.of_code (Γ := gzPlace) Tryz.func21 (by kernel_rfl) (by kernel_rfl) (by kernel_rfl) (by kernel_rfl) (Nat.eq_of_beq_eq_true hp) ha hq
/-- netsegment/placement.Valid -/
noncomputable def gzVal : Ctx := { N := 95, np := 0, own := fun _ => false, plan := fun i => match Nat.beq i 8 with | true => some (lin [(0, true), (1, true), (2, true), (3, true), (4, true), (5, true), (6, true), (7, true), (8, true), (9, true), (10, true), (11, true), (12, true), (13, true), (14, true), (15, true), (16, true), (17, true), (18, true), (19, true), (20, true), (21, true), (22, true), (23, true), (24, true), (25, true), (26, true), (27, true), (28, true), (29, true), (30, true), (31, true), (32, true), (33, true), (34, true)]) | false => match Nat.beq i 10 with | true => some (lin [(0, true), (1, true), (2, true), (3, true), (4, true), (5, true), (6, true), (7, false), (8, false), (9, false), (10, true)]) | false => none, hints := fun _ => [], cut := fun _ => false }
noncomputable def bzVal : Code := match Tryz.f23.body with | some c => c | none => .skip
theorem ofzVal {args : List AV} {hs : List Vm.Obj} {K : AV → List Vm.Obj → Prop} (hp : Nat.beq gzVal.np hs.length = true) (ha : Nat.ble args.length 95 = true) (hq : initQ hs args fun σ => codeQ Tryz.prog gzVal bzVal σ (retQ Tryz.prog gzVal Tryz.f23.results.toList K)) : ACall Tryz.prog 23 args hs K :=
  ACall.of_code (Γ := gzVal) Tryz.func23 (by kernel_rfl) (by kernel_rfl) (by kernel_rfl) (by kernel_rfl) (Nat.eq_of_beq_eq_true hp) ha hq
/-- netsegment/placement.Costs -/
noncomputable def gzCosts : Ctx := { N := 28, np := 0, own := fun _ => false, plan := fun _ => none, hints := fun i => match Nat.beq i 9 with | true => [.freeze 5] | false => [], cut := fun _ => false }
noncomputable def bzCosts : Code := match Tryz.f22.body with | some c => c | none => .skip
theorem ofzCosts {args : List AV} {hs : List Vm.Obj} {K : AV → List Vm.Obj → Prop} (hp : Nat.beq gzCosts.np hs.length = true) (ha : Nat.ble args.length 28 = true) (hq : initQ hs args fun σ => codeQ Tryz.prog gzCosts bzCosts σ (retQ Tryz.prog gzCosts Tryz.f22.results.toList K)) : ACall Tryz.prog 22 args hs K :=
  ACall.of_code (Γ := gzCosts) Tryz.func22 (by kernel_rfl) (by kernel_rfl) (by kernel_rfl) (by kernel_rfl) (Nat.eq_of_beq_eq_true hp) ha hq

end Go.Proofs.YtokmdghjgegclaaGreatDoor

set_option linter.unusedVariables false
set_option maxRecDepth 20000
namespace Go.Proofs.YtokmdghjgegclaaGreatDoor
open Go Go.Vm

/-- netsegment/policy.whole -/
noncomputable def gyWho : Ctx := { N := 32, np := 0, own := fun _ => false, plan := fun _ => none, hints := fun _ => [], cut := fun _ => false }
noncomputable def byWho : Code := match Tryz.f102.body with | some c => c | none => .skip
theorem ofyWho {args : List AV} {hs : List Vm.Obj} {K : AV → List Vm.Obj → Prop} (hp : Nat.beq gyWho.np hs.length = true) (ha : Nat.ble args.length 32 = true) (hq : initQ hs args fun σ => codeQ Tryz.prog gyWho byWho σ (retQ Tryz.prog gyWho Tryz.f102.results.toList K)) : ACall Tryz.prog 102 args hs K :=
  ACall.of_code (Γ := gyWho) Tryz.func102 (by kernel_rfl) (by kernel_rfl) (by kernel_rfl) (by kernel_rfl) (Nat.eq_of_beq_eq_true hp) ha hq
/-- netsegment/policy.pairs -/
noncomputable def gyPairs : Ctx := { N := 31, np := 0, own := fun _ => false, plan := fun _ => none, hints := fun i => match Nat.beq i 2 with | true => [.virt 3 10] | false => [], cut := fun _ => false }
noncomputable def byPairs : Code := match Tryz.f98.body with | some c => c | none => .skip
theorem ofyPairs {args : List AV} {hs : List Vm.Obj} {K : AV → List Vm.Obj → Prop} (hp : Nat.beq gyPairs.np hs.length = true) (ha : Nat.ble args.length 31 = true) (hq : initQ hs args fun σ => codeQ Tryz.prog gyPairs byPairs σ (retQ Tryz.prog gyPairs Tryz.f98.results.toList K)) : ACall Tryz.prog 98 args hs K :=
  ACall.of_code (Γ := gyPairs) Tryz.func98 (by kernel_rfl) (by kernel_rfl) (by kernel_rfl) (by kernel_rfl) (Nat.eq_of_beq_eq_true hp) ha hq
/-- netsegment/policy.Pair -/
noncomputable def gyPair : Ctx := { N := 49, np := 0, own := fun _ => false, plan := fun i => match Nat.beq i 7 with | true => some (lin [(0, true), (1, true), (2, true), (3, true), (4, true), (5, false), (6, false), (7, false), (8, true), (9, true), (10, true), (11, true)]) | false => none, hints := fun _ => [], cut := fun _ => false }
noncomputable def byPair : Code := match Tryz.f54.body with | some c => c | none => .skip
theorem ofyPair {args : List AV} {hs : List Vm.Obj} {K : AV → List Vm.Obj → Prop} (hp : Nat.beq gyPair.np hs.length = true) (ha : Nat.ble args.length 49 = true) (hq : initQ hs args fun σ => codeQ Tryz.prog gyPair byPair σ (retQ Tryz.prog gyPair Tryz.f54.results.toList K)) : ACall Tryz.prog 54 args hs K :=
  ACall.of_code (Γ := gyPair) Tryz.func54 (by kernel_rfl) (by kernel_rfl) (by kernel_rfl) (by kernel_rfl) (Nat.eq_of_beq_eq_true hp) ha hq
/-- netsegment/policy.Valid -/
noncomputable def gyVal : Ctx := { N := 109, np := 0, own := fun _ => false, plan := fun i => match Nat.beq i 1 with | true => some (lin [(0, true), (1, false), (2, true), (3, true), (4, true), (5, true), (6, false), (7, true), (8, true), (9, true), (10, true), (11, true), (12, true), (13, false), (14, false), (15, true), (16, true), (17, true), (18, true), (19, true), (20, false), (21, false), (22, true), (23, true)]) | false => match Nat.beq i 6 with | true => some (lin [(0, true), (1, true), (2, false), (3, true), (4, true), (5, true), (6, true), (7, true), (8, true), (9, true), (10, true), (11, true), (12, true), (13, true), (14, true), (15, true), (16, true), (17, true), (18, true), (19, true), (20, true), (21, true), (22, true), (23, true), (24, true), (25, true), (26, true), (27, true), (28, true), (29, false), (30, true), (31, true), (32, true), (33, true), (34, true), (35, true), (36, true), (37, false), (38, true), (39, true)]) | false => none, hints := fun _ => [], cut := fun i => match Nat.beq i 8 with | true => true | false => false }
noncomputable def byVal : Code := match Tryz.f53.body with | some c => c | none => .skip
theorem ofyVal {args : List AV} {hs : List Vm.Obj} {K : AV → List Vm.Obj → Prop} (hp : Nat.beq gyVal.np hs.length = true) (ha : Nat.ble args.length 109 = true) (hq : initQ hs args fun σ => codeQ Tryz.prog gyVal byVal σ (retQ Tryz.prog gyVal Tryz.f53.results.toList K)) : ACall Tryz.prog 53 args hs K :=
  ACall.of_code (Γ := gyVal) Tryz.func53 (by kernel_rfl) (by kernel_rfl) (by kernel_rfl) (by kernel_rfl) (Nat.eq_of_beq_eq_true hp) ha hq

end Go.Proofs.YtokmdghjgegclaaGreatDoor

set_option linter.unusedVariables false
set_option maxRecDepth 20000
namespace Go.Proofs.YtokmdghjgegclaaGreatDoor
open Go Go.Vm

/-- netsegment/packetset.Initial -/
noncomputable def gxInit : Ctx := { N := 28, np := 0, own := fun i => match Nat.beq i 140 with | true => true | false => false, plan := fun _ => none, hints := fun i => match Nat.beq i 2 with | true => [.virtB 1 0 10] | false => [], cut := fun _ => false }
noncomputable def bxInit : Code := match Tryz.f99.body with | some c => c | none => .skip
theorem ofxInit {args : List AV} {hs : List Vm.Obj} {K : AV → List Vm.Obj → Prop} (hp : Nat.beq gxInit.np hs.length = true) (ha : Nat.ble args.length 28 = true) (hq : initQ hs args fun σ => codeQ Tryz.prog gxInit bxInit σ (retQ Tryz.prog gxInit Tryz.f99.results.toList K)) : ACall Tryz.prog 99 args hs K :=
  ACall.of_code (Γ := gxInit) Tryz.func99 (by kernel_rfl) (by kernel_rfl) (by kernel_rfl) (by kernel_rfl) (Nat.eq_of_beq_eq_true hp) ha hq
/-- netsegment/packetset.Initial$1 -/
noncomputable def gxInitC : Ctx := { N := 31, np := 2, own := fun _ => false, plan := fun _ => none, hints := fun _ => [], cut := fun _ => false, out := true }
noncomputable def bxInitC : Code := match Tryz.f140.body with | some c => c | none => .skip
theorem ofxInitC {args : List AV} {hs : List Vm.Obj} {K : AV → List Vm.Obj → Prop} (hp : Nat.beq gxInitC.np hs.length = true) (ha : Nat.ble args.length 31 = true) (hq : initQ hs args fun σ => codeQ Tryz.prog gxInitC bxInitC σ (retQ Tryz.prog gxInitC Tryz.f140.results.toList K)) : ACall Tryz.prog 140 args hs K :=
  ACall.of_code (Γ := gxInitC) Tryz.func140 (by kernel_rfl) (by kernel_rfl) (by kernel_rfl) (by kernel_rfl) (Nat.eq_of_beq_eq_true hp) ha hq

end Go.Proofs.YtokmdghjgegclaaGreatDoor

