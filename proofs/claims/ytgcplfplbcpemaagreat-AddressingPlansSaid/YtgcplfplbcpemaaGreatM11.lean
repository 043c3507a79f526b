/- The sanity check's topology: what it is planned to be. The functions of the seat as the machine takes them: contexts, bodies, contracts out of the code. Printed by gsctx.py. Splitting ranges into prefixes: contracts. The sanity check; AddressingSucceeds: its contract. -/
import Derived.Test.YtgcplfplbcpemaaGreatProg
import Derived.Test.YtgcplfplbcpemaaGreatM10
set_option linter.unusedVariables false
set_option linter.unusedSimpArgs false
set_option maxRecDepth 20000
namespace Go.Proofs.YtgcplfplbcpemaaGreat
open Go Go.Vm

def saneT : Tp := ⟨[⟨⟨#[97]⟩, 0, false, false, ⟨#[]⟩⟩], [], [⟨⟨#[120]⟩, 0, ⟨#[122]⟩, ⟨0, 26, by decide, by decide⟩, true⟩, ⟨⟨#[121]⟩, 0, ⟨#[122]⟩, ⟨0, 25, by decide, by decide⟩, true⟩, ⟨⟨#[122]⟩, 0, ⟨#[122]⟩, ⟨0, 26, by decide, by decide⟩, true⟩], [⟨167772160, 24, by decide, by decide⟩], 0⟩
def saneU : Tp := ⟨[⟨⟨#[97]⟩, 0, false, false, ⟨#[]⟩⟩], [], [⟨⟨#[120]⟩, 0, ⟨#[122]⟩, ⟨167772288, 26, by decide, by decide⟩, false⟩, ⟨⟨#[121]⟩, 0, ⟨#[122]⟩, ⟨167772160, 25, by decide, by decide⟩, false⟩, ⟨⟨#[122]⟩, 0, ⟨#[122]⟩, ⟨167772352, 26, by decide, by decide⟩, false⟩], [⟨167772160, 24, by decide, by decide⟩], 0⟩
theorem sEq_lit (a b : List UInt8) : sEq ⟨⟨a⟩⟩ ⟨⟨b⟩⟩ = (a == b) := by rw [sEq, ByteArray.toList_eq, ByteArray.toList_eq]
theorem topOk_sane (u : Tp) (h : u = saneT ∨ u = saneU) : TopOk u := by
  have nm : ∀ l, nmChk l = true → nameOk ⟨⟨l⟩⟩ := nameOk_lit
  have hd : u.devs = [⟨⟨#[97]⟩, 0, false, false, ⟨#[]⟩⟩] := by rcases h with rfl | rfl <;> rfl
  have hl : u.links = [] := by rcases h with rfl | rfl <;> rfl
  have he3 : u.edges.length = 3 := by rcases h with rfl | rfl <;> rfl
  have hp : u.pools = [⟨167772160, 24, by decide, by decide⟩] := by rcases h with rfl | rfl <;> rfl
  have ht : u.tol = 0 := by rcases h with rfl | rfl <;> rfl
  refine ⟨by rw [hd]; decide, by rw [hd]; decide, by rw [hl]; decide, by rw [he3]; decide, by rw [hp]; decide, by rw [ht]; decide, by rw [ht]; decide, ?_, ?_, ?_, ?_, ?_⟩
  · intro i d hi
    rw [hd] at hi ⊢
    match i, hi with
    | 0, hi =>
      simp at hi; subst hi
      refine ⟨⟨nm _ (by decide), by decide, by decide, .inl ?_⟩, ?_⟩
      · rw [sEq_lit]; rfl
      · show firstIx _ _ = _
        exact firstIx_at (k := 0) rfl (by rw [sEq_lit]; rfl) (fun i y h => absurd h (Nat.not_lt_zero _))
    | i + 1, hi => simp at hi
  · intro i l hi
    rw [hl] at hi; simp at hi
  · intro i e hi
    have ok : edgeOk u.devs.length e := by
      rw [hd]
      rcases h with rfl | rfl
      all_goals
        match i, hi with
        | 0, hi => simp [saneT, saneU] at hi; subst hi; exact ⟨nm _ (by decide), nm _ (by decide), by decide, by decide, by decide, by decide, by decide⟩
        | 1, hi => simp [saneT, saneU] at hi; subst hi; exact ⟨nm _ (by decide), nm _ (by decide), by decide, by decide, by decide, by decide, by decide⟩
        | 2, hi => simp [saneT, saneU] at hi; subst hi; exact ⟨nm _ (by decide), nm _ (by decide), by decide, by decide, by decide, by decide, by decide⟩
        | i + 3, hi => simp [saneT, saneU] at hi
    refine ⟨ok, ?_⟩
    have names : u.edges.map (fun d => d.name) = [⟨⟨[120]⟩⟩, ⟨⟨[121]⟩⟩, ⟨⟨[122]⟩⟩] := by rcases h with rfl | rfl <;> rfl
    have key : ∀ j, (u.edges.map fun d => d.name)[j]? = (u.edges[j]?).map fun (d : Ed) => d.name := fun j => by rw [List.getElem?_map]
    have hn : ∀ (j : Nat) y, u.edges[j]? = some y → (j = 0 ∧ y.name = ⟨⟨[120]⟩⟩) ∨ (j = 1 ∧ y.name = ⟨⟨[121]⟩⟩) ∨ (j = 2 ∧ y.name = ⟨⟨[122]⟩⟩) := by
      intro j y hj
      have := key j
      rw [names, hj] at this
      match j, this with
      | 0, h => simp at h; exact .inl ⟨rfl, h.symm⟩
      | 1, h => simp at h; exact .inr (.inl ⟨rfl, h.symm⟩)
      | 2, h => simp at h; exact .inr (.inr ⟨rfl, h.symm⟩)
      | j + 3, h => simp at h
    refine firstIx_at hi (by rcases hn i e hi with ⟨_, h⟩ | ⟨_, h⟩ | ⟨_, h⟩ <;> rw [h, sEq_lit] <;> rfl) fun j y hj hy => ?_
    rcases hn i e hi with ⟨rfl, h⟩ | ⟨rfl, h⟩ | ⟨rfl, h⟩ <;> rcases hn j y hy with ⟨rfl, g⟩ | ⟨rfl, g⟩ | ⟨rfl, g⟩ <;> first | omega | (rw [h, g, sEq_lit]; rfl)
  · intro i e hi j o hj ho
    rcases h with rfl | rfl
    · rintro ⟨h1, _⟩
      match i, hi with
      | 0, hi => simp [saneT] at hi; subst hi; cases h1
      | 1, hi => simp [saneT] at hi; subst hi; cases h1
      | 2, hi => simp [saneT] at hi; subst hi; cases h1
      | i + 3, hi => simp [saneT] at hi
    · rintro ⟨_, _, h3⟩
      revert h3
      match i, hi, j, ho with
      | 0, hi, j, ho => omega
      | 1, hi, 0, ho => simp [saneU] at hi ho; subst hi; subst ho; decide
      | 2, hi, 0, ho => simp [saneU] at hi ho; subst hi; subst ho; decide
      | 2, hi, 1, ho => simp [saneU] at hi ho; subst hi; subst ho; decide
      | 1, hi, j + 1, ho => omega
      | 2, hi, j + 2, ho => omega
      | i + 3, hi, j, ho => simp [saneU] at hi
  · intro i p hi
    rw [hp] at hi ⊢
    match i, hi with
    | 0, hi => simp at hi; subst hi; exact ⟨by decide, fun j q hj => absurd hj (Nat.not_lt_zero _)⟩
    | i + 1, hi => simp at hi
theorem canon_two {a b : Int} (h0 : 0 ≤ a) (h1 : a ≤ b) (h2 : b ≤ 4294967295) : Canon [mkR a b] := by
  refine ⟨fun r hr => ?_, by simp⟩
  simp at hr; subst hr
  rw [mkR_lo (by omega) (by omega) (by omega) (by omega), mkR_hi (by omega) (by omega) (by omega) (by omega)]
  exact h1
theorem has_mk {a b : Int} (h0 : 0 ≤ a) (h1 : a ≤ b) (h2 : b ≤ 4294967295) (v : Int) : has [mkR a b] v = (decide (a ≤ v) && decide (v ≤ b)) := by
  rw [has_one, mkR_lo (by omega) (by omega) (by omega) (by omega), mkR_hi (by omega) (by omega) (by omega) (by omega)]
theorem canonOf_nil {f : Int → Bool} (h : ∀ v, f v = false) : canonOf f = [] := canonOf_eq canon_nil fun v => by rw [has_nil, h]
theorem canonOf_mk {f : Int → Bool} {a b : Int} (h0 : 0 ≤ a) (h1 : a ≤ b) (h2 : b ≤ 4294967295) (h : ∀ v, f v = (decide (a ≤ v) && decide (v ≤ b))) : canonOf f = [mkR a b] := canonOf_eq (canon_two h0 h1 h2) fun v => by rw [has_mk h0 h1 h2, h]
theorem pf_has {p : Pf} (h : p.okP) (v : Int) : p.has v = (decide (p.addr ≤ v) && decide (v ≤ p.addr + pz p.bits - 1)) := by simp [Pf.has, h, rg_lo h, rg_hi h]
theorem free_saneT : freeOf saneT.pools saneT.edges = [mkR 167772160 167772415] := by
  refine canonOf_mk (by decide) (by decide) (by decide) fun v => ?_
  simp [saneT, fixed, pf_has (p := ⟨167772160, 24, by decide, by decide⟩) (by decide)]
  rfl
theorem lowest_mk {a b n : Int} (h0 : 0 ≤ a) (h1 : a ≤ b) (h2 : b ≤ 4294967295) : lowest [mkR a b] n = if (a + n - 1) / n * n + n - 1 ≤ b then some ((a + n - 1) / n * n) else none := by
  simp only [lowest, List.findSome?_cons, List.findSome?_nil, lowIn]
  rw [mkR_lo (by omega) (by omega) (by omega) (by omega), mkR_hi (by omega) (by omega) (by omega) (by omega)]
  by_cases h : (a + n - 1) / n * n + n - 1 ≤ b
  · simp only [if_pos h]
  · simp only [if_neg h]
theorem plan_sane : planOf saneT = some saneU.edges := by
  have hs : isort (ltB saneT) (plIx saneT.edges) = [1, 0, 2] := by decide
  rw [planOf, hs, free_saneT]
  have e1 : pz 25 = 128 := by decide
  have e2 : pz 26 = 64 := by decide
  have c1 : cutOf [mkR 167772160 167772415] 167772160 128 = [mkR 167772288 167772415] := canonOf_mk (by decide) (by decide) (by decide) fun v => by
    rw [has_mk (by decide) (by decide) (by decide), Bool.eq_iff_iff]; simp; omega
  have c2 : cutOf [mkR 167772288 167772415] 167772288 64 = [mkR 167772352 167772415] := canonOf_mk (by decide) (by decide) (by decide) fun v => by
    rw [has_mk (by decide) (by decide) (by decide), Bool.eq_iff_iff]; simp; omega
  have l1 : lowest [mkR 167772160 167772415] 128 = some 167772160 := by rw [lowest_mk (by decide) (by decide) (by decide)]; decide
  have l2 : lowest [mkR 167772288 167772415] 64 = some 167772288 := by rw [lowest_mk (by decide) (by decide) (by decide)]; decide
  have l3 : lowest [mkR 167772352 167772415] 64 = some 167772352 := by rw [lowest_mk (by decide) (by decide) (by decide)]; decide
  simp only [planGo, saneT, List.getElem?_cons_succ, List.getElem?_cons_zero, e1, e2, l1, c1, setE, List.set_cons_succ, List.set_cons_zero, l2, c2, l3]
  rfl
theorem sane_plan : planT saneT = saneU ∧ planE saneT = 0 := by
  have h1 : topB saneT = true := topB_true (topOk_sane _ (.inl rfl))
  simp only [planT, planE, h1, plan_sane]
  exact ⟨rfl, trivial⟩
theorem free_saneU : freeOf saneU.pools saneU.edges = [] := by
  refine canonOf_nil fun v => ?_
  simp [saneU, fixed, pf_has (p := ⟨167772160, 24, by decide, by decide⟩) (by decide), pf_has (p := ⟨167772160, 25, by decide, by decide⟩) (by decide), pf_has (p := ⟨167772288, 26, by decide, by decide⟩) (by decide), pf_has (p := ⟨167772352, 26, by decide, by decide⟩) (by decide)]
  have e1 : pz 24 = 256 := by decide
  have e2 : pz 25 = 128 := by decide
  have e3 : pz 26 = 64 := by decide
  rw [e1, e2, e3]
  omega
end Go.Proofs.YtgcplfplbcpemaaGreat

set_option linter.unusedVariables false
set_option maxRecDepth 20000
namespace Go.Proofs.YtgcplfplbcpemaaGreat
open Go Go.Vm

/-- math/bits.Len32 -/
noncomputable def glen32 : Ctx := { N := 19, np := 0, own := fun _ => false, plan := fun _ => none, hints := fun _ => [], cut := fun _ => false }
noncomputable def blen32 : Code := match Tryz.f94.body with | some c => c | none => .skip
theorem oflen32 {args : List AV} {hs : List Vm.Obj} {K : AV → List Vm.Obj → Prop} (hp : Nat.beq glen32.np hs.length = true) (ha : Nat.ble args.length 19 = true) (hq : initQ hs args fun σ => codeQ Tryz.prog glen32 blen32 σ (retQ Tryz.prog glen32 Tryz.f94.results.toList K)) : ACall Tryz.prog 94 args hs K :=
  ACall.of_code (Γ := glen32) Tryz.func94 (by kernel_rfl) (by kernel_rfl) (by kernel_rfl) (by kernel_rfl) (Nat.eq_of_beq_eq_true hp) ha hq
/-- math/bits.LeadingZeros32 -/
noncomputable def glz32 : Ctx := { N := 6, np := 0, own := fun _ => false, plan := fun _ => none, hints := fun _ => [], cut := fun _ => false }
noncomputable def blz32 : Code := match Tryz.f85.body with | some c => c | none => .skip
theorem oflz32 {args : List AV} {hs : List Vm.Obj} {K : AV → List Vm.Obj → Prop} (hp : Nat.beq glz32.np hs.length = true) (ha : Nat.ble args.length 6 = true) (hq : initQ hs args fun σ => codeQ Tryz.prog glz32 blz32 σ (retQ Tryz.prog glz32 Tryz.f85.results.toList K)) : ACall Tryz.prog 85 args hs K :=
  ACall.of_code (Γ := glz32) Tryz.func85 (by kernel_rfl) (by kernel_rfl) (by kernel_rfl) (by kernel_rfl) (Nat.eq_of_beq_eq_true hp) ha hq
/-- netsegment/prefix.Common -/
noncomputable def gpCommon : Ctx := { N := 16, np := 0, own := fun _ => false, plan := fun _ => none, hints := fun _ => [], cut := fun _ => false }
noncomputable def bpCommon : Code := match Tryz.f67.body with | some c => c | none => .skip
theorem ofpCommon {args : List AV} {hs : List Vm.Obj} {K : AV → List Vm.Obj → Prop} (hp : Nat.beq gpCommon.np hs.length = true) (ha : Nat.ble args.length 16 = true) (hq : initQ hs args fun σ => codeQ Tryz.prog gpCommon bpCommon σ (retQ Tryz.prog gpCommon Tryz.f67.results.toList K)) : ACall Tryz.prog 67 args hs K :=
  ACall.of_code (Γ := gpCommon) Tryz.func67 (by kernel_rfl) (by kernel_rfl) (by kernel_rfl) (by kernel_rfl) (Nat.eq_of_beq_eq_true hp) ha hq
/-- netsegment/prefix.Blocks -/
noncomputable def gpBlocks : Ctx := { N := 72, np := 0, own := fun _ => false, plan := fun i => match Nat.beq i 4 with | true => some (lin [(0, true), (1, true), (2, true), (3, true), (4, true), (5, true), (6, true), (7, true), (8, true)]) | false => none, hints := fun i => match Nat.beq i 4 with | true => [.virt 5 2] | false => [], cut := fun _ => false }
noncomputable def bpBlocks : Code := match Tryz.f66.body with | some c => c | none => .skip
theorem ofpBlocks {args : List AV} {hs : List Vm.Obj} {K : AV → List Vm.Obj → Prop} (hp : Nat.beq gpBlocks.np hs.length = true) (ha : Nat.ble args.length 72 = true) (hq : initQ hs args fun σ => codeQ Tryz.prog gpBlocks bpBlocks σ (retQ Tryz.prog gpBlocks Tryz.f66.results.toList K)) : ACall Tryz.prog 66 args hs K :=
  ACall.of_code (Γ := gpBlocks) Tryz.func66 (by kernel_rfl) (by kernel_rfl) (by kernel_rfl) (by kernel_rfl) (Nat.eq_of_beq_eq_true hp) ha hq
/-- netsegment/prefix.Split -/
noncomputable def gpSplit : Ctx := { N := 23, np := 0, own := fun _ => false, plan := fun _ => none, hints := fun i => match Nat.beq i 2 with | true => [.virt 3 2] | false => [], cut := fun _ => false }
noncomputable def bpSplit : Code := match Tryz.f41.body with | some c => c | none => .skip
theorem ofpSplit {args : List AV} {hs : List Vm.Obj} {K : AV → List Vm.Obj → Prop} (hp : Nat.beq gpSplit.np hs.length = true) (ha : Nat.ble args.length 23 = true) (hq : initQ hs args fun σ => codeQ Tryz.prog gpSplit bpSplit σ (retQ Tryz.prog gpSplit Tryz.f41.results.toList K)) : ACall Tryz.prog 41 args hs K :=
  ACall.of_code (Γ := gpSplit) Tryz.func41 (by kernel_rfl) (by kernel_rfl) (by kernel_rfl) (by kernel_rfl) (Nat.eq_of_beq_eq_true hp) ha hq
/-- netsegment/addressing.Free -/
noncomputable def gaFreeP : Ctx := { N := 22, np := 0, own := fun i => match Nat.beq i 33 with | true => true | false => false, plan := fun _ => none, hints := fun i => match Nat.beq i 4 with | true => [.virt 3 2] | false => [], cut := fun _ => false }
noncomputable def baFreeP : Code := match Tryz.f21.body with | some c => c | none => .skip
theorem ofaFreeP {args : List AV} {hs : List Vm.Obj} {K : AV → List Vm.Obj → Prop} (hp : Nat.beq gaFreeP.np hs.length = true) (ha : Nat.ble args.length 22 = true) (hq : initQ hs args fun σ => codeQ Tryz.prog gaFreeP baFreeP σ (retQ Tryz.prog gaFreeP Tryz.f21.results.toList K)) : ACall Tryz.prog 21 args hs K :=
  ACall.of_code (Γ := gaFreeP) Tryz.func21 (by kernel_rfl) (by kernel_rfl) (by kernel_rfl) (by kernel_rfl) (Nat.eq_of_beq_eq_true hp) ha hq
/-- netsegment/nsglaw12.sane -/
noncomputable def gsane12 : Ctx := { N := 80, np := 0, own := fun _ => false, plan := fun i => match Nat.beq i 6 with | true => some (lin [(0, true), (1, true), (2, true), (3, true), (4, true), (5, true), (6, true), (7, true), (8, true), (9, true), (10, true), (11, true), (12, false), (13, false), (14, true), (15, false)]) | false => none, hints := fun i => match Nat.beq i 3 with | true => [.virtB 1 2 6] | false => match Nat.beq i 7 with | true => [.freezeB 1] | false => [], cut := fun _ => false }
noncomputable def bsane12 : Code := match Tryz.f11.body with | some c => c | none => .skip
theorem ofsane12 {args : List AV} {hs : List Vm.Obj} {K : AV → List Vm.Obj → Prop} (hp : Nat.beq gsane12.np hs.length = true) (ha : Nat.ble args.length 80 = true) (hq : initQ hs args fun σ => codeQ Tryz.prog gsane12 bsane12 σ (retQ Tryz.prog gsane12 Tryz.f11.results.toList K)) : ACall Tryz.prog 11 args hs K :=
  ACall.of_code (Γ := gsane12) Tryz.func11 (by kernel_rfl) (by kernel_rfl) (by kernel_rfl) (by kernel_rfl) (Nat.eq_of_beq_eq_true hp) ha hq

end Go.Proofs.YtgcplfplbcpemaaGreat

set_option linter.unusedVariables false
set_option linter.unusedSimpArgs false
set_option maxRecDepth 20000
set_option maxHeartbeats 4000000
namespace Go.Proofs.YtgcplfplbcpemaaGreat
open Go Go.Vm

/-- n bits are needed for x -/
def IsLen (x n : Nat) : Prop := x < 2 ^ n ∧ (n = 0 ∨ 2 ^ (n - 1) ≤ x)
instance (x n : Nat) : Decidable (IsLen x n) := by unfold IsLen; infer_instance
theorem isLen_uniq {x n k : Nat} (h : IsLen x n) (g : IsLen x k) : n = k := by
  obtain ⟨h1, h2⟩ := h; obtain ⟨g1, g2⟩ := g
  rcases Nat.lt_trichotomy n k with h | h | h
  · have := Nat.pow_le_pow_right (n := 2) (by omega) (show n ≤ k - 1 by omega); omega
  · exact h
  · have := Nat.pow_le_pow_right (n := 2) (by omega) (show k ≤ n - 1 by omega); omega
theorem isLen_mask (k : Nat) : IsLen (2 ^ k - 1) k := by
  have h := Nat.two_pow_pos k
  refine ⟨by omega, ?_⟩
  rcases Nat.eq_zero_or_pos k with h | h
  · exact .inl h
  · right
    obtain ⟨j, rfl⟩ : ∃ j, k = j + 1 := ⟨k - 1, by omega⟩
    rw [Nat.pow_succ, Nat.add_sub_cancel]
    have := Nat.two_pow_pos j
    omega
theorem isLen_shift {x n s : Nat} (h : IsLen (x / 2 ^ s) n) (hx : 2 ^ s ≤ x) : IsLen x (n + s) := by
  obtain ⟨h1, h2⟩ := h
  have hp := Nat.two_pow_pos s
  have hn : n ≠ 0 := by
    rintro rfl
    have := (Nat.div_lt_iff_lt_mul hp).1 h1
    omega
  refine ⟨by rw [Nat.pow_add]; exact (Nat.div_lt_iff_lt_mul hp).1 h1, .inr ?_⟩
  rw [show n + s - 1 = (n - 1) + s by omega, Nat.pow_add]
  exact (Nat.le_div_iff_mul_le hp).1 (h2.resolve_left hn)
theorem wr_u8 {e : Int} {K : Int → Prop} (j : Nat) (h : e = j) (hj : j < 256) (hk : K j) : Wr .u8 e K := by
  subst h
  refine Wr.intro ?_ hk
  simp only [IntKind.wrap, IntKind.signed, IntKind.bits]; simp; omega
def chkTab (s : ByteArray) : Bool := Nat.beq s.data.size 256 && (List.range 256).all fun j => match s.data[j]? with
  | some b => decide (IsLen j b.toNat)
  | none => false
theorem tab_in {s : ByteArray} {j : Nat} {K : UInt8 → Prop} (hc : chkTab s = true) (hj : j < 256) (hk : ∀ b : UInt8, IsLen j b.toNat → b.toNat < 256 → K b) : In (j : Int) s.size fun j' => ∃ b, s[j']? = some b ∧ K b := by
  simp only [chkTab, Bool.and_eq_true, List.all_eq_true, List.mem_range] at hc
  obtain ⟨h1, h2⟩ := hc
  have h1 : s.size = 256 := Nat.eq_of_beq_eq_true h1
  have hlt : j < s.size := by omega
  refine In.intro j rfl hlt ⟨s[j], by simp [hlt], hk _ ?_ (UInt8.toNat_lt _)⟩
  have := h2 j hj
  have e : s.data[j]? = some s[j] := by rw [Array.getElem?_eq_getElem (show j < s.data.size from hlt)]; rfl
  rw [e] at this
  simpa using this
theorem fd16 (x : Nat) : (x : Int).fdiv (2 ^ min (Int.toNat 16) IntKind.u32.bits) = ((x / 2 ^ 16 : Nat) : Int) := by
  rw [show (2 ^ min (Int.toNat 16) IntKind.u32.bits : Int) = 65536 by decide, Int.fdiv_eq_ediv_of_nonneg _ (by omega)]; omega
theorem fd8 (x : Nat) : (x : Int).fdiv (2 ^ min (Int.toNat 8) IntKind.u32.bits) = ((x / 2 ^ 8 : Nat) : Int) := by
  rw [show (2 ^ min (Int.toNat 8) IntKind.u32.bits : Int) = 256 by decide, Int.fdiv_eq_ediv_of_nonneg _ (by omega)]; omega
/-- math/bits.Len32 -/
theorem clen32 (x : Nat) (hx : x ≤ 4294967295) {K : AV → List Vm.Obj → Prop} (hK : ∀ n : Nat, IsLen x n → K (.v (.int .i64 n)) []) : ACall Tryz.prog 94 [.v (.int .u32 x)] [] K := by
  refine oflen32 rfl rfl ?_
  (all_goals (repeat' ((conv => whnf); first | ((with_reducible refine sl_full ?ha ?_); (case ha => exact gA)) | ((with_reducible refine Ob.intro ?ha ?_); (case ha => exact gC)) | ((with_reducible refine br_lt ?_)) | ((with_reducible refine br_lf ?_)) | ((with_reducible refine br_pos ?ha ?_); (case ha => exact gB)) | ((with_reducible refine br_neg ?ha ?_); (case ha => exact gB)) | ((with_reducible refine br_t ?ha ?_); (case ha => with_reducible assumption)) | ((with_reducible refine br_f ?ha ?_); (case ha => with_reducible assumption)) | ((with_reducible refine br_dec (fun h => ?_) (fun h => ?_))) | ((with_reducible refine br_not ?_)) | ((with_reducible refine br_b (fun h => ?_) (fun h => ?_))) | ((with_reducible refine wr_i64 rfl ?ha ?hb ?_); (case ha => exact gB); (case hb => exact gB)) | ((with_reducible refine wr_u64 rfl ?ha ?hb ?_); (case ha => exact gB); (case hb => exact gB)) | ((with_reducible refine wr_u32 rfl ?ha ?hb ?_); (case ha => exact gB); (case hb => exact gB)) | ((with_reducible refine And.intro ?_ ?_)) | ((with_reducible refine True.intro)) | ((with_reducible refine Stp.go ?_))))); (all_goals (conv => whnf))
  · rename_i h1; have h2 := h
    rw [fd16] at h2
    refine wr_u8 (x / 2 ^ 16 / 2 ^ 8) (by rw [fd16, fd8]) (by omega) ?_
    (all_goals (repeat' ((conv => whnf); first | (with_reducible refine tab_in (by kernel_rfl) (by omega) fun b hb hb2 => ?_) | ((with_reducible refine sl_full ?ha ?_); (case ha => exact gA)) | ((with_reducible refine Ob.intro ?ha ?_); (case ha => exact gC)) | ((with_reducible refine br_lt ?_)) | ((with_reducible refine br_lf ?_)) | ((with_reducible refine br_pos ?ha ?_); (case ha => exact gB)) | ((with_reducible refine br_neg ?ha ?_); (case ha => exact gB)) | ((with_reducible refine br_t ?ha ?_); (case ha => with_reducible assumption)) | ((with_reducible refine br_f ?ha ?_); (case ha => with_reducible assumption)) | ((with_reducible refine br_dec (fun h => ?_) (fun h => ?_))) | ((with_reducible refine br_not ?_)) | ((with_reducible refine br_b (fun h => ?_) (fun h => ?_))) | ((with_reducible refine wr_i64 rfl ?ha ?hb ?_); (case ha => exact gB); (case hb => exact gB)) | ((with_reducible refine wr_u64 rfl ?ha ?hb ?_); (case ha => exact gB); (case hb => exact gB)) | ((with_reducible refine wr_u32 rfl ?ha ?hb ?_); (case ha => exact gB); (case hb => exact gB)) | ((with_reducible refine And.intro ?_ ?_)) | ((with_reducible refine True.intro)) | ((with_reducible refine Stp.go ?_))))); (all_goals (conv => whnf))
    have e : (16 + 8 + (b.toNat : Int)) = ((b.toNat + 8 + 16 : Nat) : Int) := by omega
    unfold one?
    rw [e]
    exact hK _ (isLen_shift (isLen_shift hb (by omega)) (by omega))
  · rename_i h1; have h2 := h
    rw [fd16] at h2
    refine wr_u8 (x / 2 ^ 16) (by rw [fd16]) (by omega) ?_
    (all_goals (repeat' ((conv => whnf); first | (with_reducible refine tab_in (by kernel_rfl) (by omega) fun b hb hb2 => ?_) | ((with_reducible refine sl_full ?ha ?_); (case ha => exact gA)) | ((with_reducible refine Ob.intro ?ha ?_); (case ha => exact gC)) | ((with_reducible refine br_lt ?_)) | ((with_reducible refine br_lf ?_)) | ((with_reducible refine br_pos ?ha ?_); (case ha => exact gB)) | ((with_reducible refine br_neg ?ha ?_); (case ha => exact gB)) | ((with_reducible refine br_t ?ha ?_); (case ha => with_reducible assumption)) | ((with_reducible refine br_f ?ha ?_); (case ha => with_reducible assumption)) | ((with_reducible refine br_dec (fun h => ?_) (fun h => ?_))) | ((with_reducible refine br_not ?_)) | ((with_reducible refine br_b (fun h => ?_) (fun h => ?_))) | ((with_reducible refine wr_i64 rfl ?ha ?hb ?_); (case ha => exact gB); (case hb => exact gB)) | ((with_reducible refine wr_u64 rfl ?ha ?hb ?_); (case ha => exact gB); (case hb => exact gB)) | ((with_reducible refine wr_u32 rfl ?ha ?hb ?_); (case ha => exact gB); (case hb => exact gB)) | ((with_reducible refine And.intro ?_ ?_)) | ((with_reducible refine True.intro)) | ((with_reducible refine Stp.go ?_))))); (all_goals (conv => whnf))
    have e : (16 + (b.toNat : Int)) = ((b.toNat + 16 : Nat) : Int) := by omega
    unfold one?
    rw [e]
    exact hK _ (isLen_shift hb (by omega))
  · rename_i h1; have h2 := h
    refine wr_u8 (x / 2 ^ 8) (by rw [fd8]) (by omega) ?_
    (all_goals (repeat' ((conv => whnf); first | (with_reducible refine tab_in (by kernel_rfl) (by omega) fun b hb hb2 => ?_) | ((with_reducible refine sl_full ?ha ?_); (case ha => exact gA)) | ((with_reducible refine Ob.intro ?ha ?_); (case ha => exact gC)) | ((with_reducible refine br_lt ?_)) | ((with_reducible refine br_lf ?_)) | ((with_reducible refine br_pos ?ha ?_); (case ha => exact gB)) | ((with_reducible refine br_neg ?ha ?_); (case ha => exact gB)) | ((with_reducible refine br_t ?ha ?_); (case ha => with_reducible assumption)) | ((with_reducible refine br_f ?ha ?_); (case ha => with_reducible assumption)) | ((with_reducible refine br_dec (fun h => ?_) (fun h => ?_))) | ((with_reducible refine br_not ?_)) | ((with_reducible refine br_b (fun h => ?_) (fun h => ?_))) | ((with_reducible refine wr_i64 rfl ?ha ?hb ?_); (case ha => exact gB); (case hb => exact gB)) | ((with_reducible refine wr_u64 rfl ?ha ?hb ?_); (case ha => exact gB); (case hb => exact gB)) | ((with_reducible refine wr_u32 rfl ?ha ?hb ?_); (case ha => exact gB); (case hb => exact gB)) | ((with_reducible refine And.intro ?_ ?_)) | ((with_reducible refine True.intro)) | ((with_reducible refine Stp.go ?_))))); (all_goals (conv => whnf))
    have e : (0 + 8 + (b.toNat : Int)) = ((b.toNat + 8 : Nat) : Int) := by omega
    unfold one?
    rw [e]
    exact hK _ (isLen_shift hb (by omega))
  · rename_i h1; have h2 := h
    refine wr_u8 x rfl (by omega) ?_
    (all_goals (repeat' ((conv => whnf); first | (with_reducible refine tab_in (by kernel_rfl) (by omega) fun b hb hb2 => ?_) | ((with_reducible refine sl_full ?ha ?_); (case ha => exact gA)) | ((with_reducible refine Ob.intro ?ha ?_); (case ha => exact gC)) | ((with_reducible refine br_lt ?_)) | ((with_reducible refine br_lf ?_)) | ((with_reducible refine br_pos ?ha ?_); (case ha => exact gB)) | ((with_reducible refine br_neg ?ha ?_); (case ha => exact gB)) | ((with_reducible refine br_t ?ha ?_); (case ha => with_reducible assumption)) | ((with_reducible refine br_f ?ha ?_); (case ha => with_reducible assumption)) | ((with_reducible refine br_dec (fun h => ?_) (fun h => ?_))) | ((with_reducible refine br_not ?_)) | ((with_reducible refine br_b (fun h => ?_) (fun h => ?_))) | ((with_reducible refine wr_i64 rfl ?ha ?hb ?_); (case ha => exact gB); (case hb => exact gB)) | ((with_reducible refine wr_u64 rfl ?ha ?hb ?_); (case ha => exact gB); (case hb => exact gB)) | ((with_reducible refine wr_u32 rfl ?ha ?hb ?_); (case ha => exact gB); (case hb => exact gB)) | ((with_reducible refine And.intro ?_ ?_)) | ((with_reducible refine True.intro)) | ((with_reducible refine Stp.go ?_))))); (all_goals (conv => whnf))
    have e : (0 + (b.toNat : Int)) = ((b.toNat : Nat) : Int) := by omega
    unfold one?
    rw [e]
    exact hK _ hb
/-- math/bits.LeadingZeros32 of a mask -/
theorem clz32 (k : Nat) (hk : k ≤ 32) {K : AV → List Vm.Obj → Prop} (hK : K (.v (.int .i64 (32 - (k : Int)))) []) : ACall Tryz.prog 85 [.v (.int .u32 ((2 ^ k - 1 : Nat) : Int))] [] K := by
  refine oflz32 rfl rfl ?_
  have hp := Nat.pow_le_pow_right (n := 2) (by omega) hk
  (all_goals (repeat' ((conv => whnf); first | (with_reducible refine clen32 (2 ^ k - 1) (by omega) fun n hn => ?_) | ((with_reducible refine sl_full ?ha ?_); (case ha => exact gA)) | ((with_reducible refine Ob.intro ?ha ?_); (case ha => exact gC)) | ((with_reducible refine br_lt ?_)) | ((with_reducible refine br_lf ?_)) | ((with_reducible refine br_pos ?ha ?_); (case ha => exact gB)) | ((with_reducible refine br_neg ?ha ?_); (case ha => exact gB)) | ((with_reducible refine br_t ?ha ?_); (case ha => with_reducible assumption)) | ((with_reducible refine br_f ?ha ?_); (case ha => with_reducible assumption)) | ((with_reducible refine br_dec (fun h => ?_) (fun h => ?_))) | ((with_reducible refine br_not ?_)) | ((with_reducible refine br_b (fun h => ?_) (fun h => ?_))) | ((with_reducible refine wr_i64 rfl ?ha ?hb ?_); (case ha => exact gB); (case hb => exact gB)) | ((with_reducible refine wr_u64 rfl ?ha ?hb ?_); (case ha => exact gB); (case hb => exact gB)) | ((with_reducible refine wr_u32 rfl ?ha ?hb ?_); (case ha => exact gB); (case hb => exact gB)) | ((with_reducible refine And.intro ?_ ?_)) | ((with_reducible refine True.intro)) | ((with_reducible refine Stp.go ?_))))); (all_goals (conv => whnf))
  have e := isLen_uniq hn (isLen_mask k)
  subst e
  (all_goals (repeat' ((conv => whnf); first | ((with_reducible refine sl_full ?ha ?_); (case ha => exact gA)) | ((with_reducible refine Ob.intro ?ha ?_); (case ha => exact gC)) | ((with_reducible refine br_lt ?_)) | ((with_reducible refine br_lf ?_)) | ((with_reducible refine br_pos ?ha ?_); (case ha => exact gB)) | ((with_reducible refine br_neg ?ha ?_); (case ha => exact gB)) | ((with_reducible refine br_t ?ha ?_); (case ha => with_reducible assumption)) | ((with_reducible refine br_f ?ha ?_); (case ha => with_reducible assumption)) | ((with_reducible refine br_dec (fun h => ?_) (fun h => ?_))) | ((with_reducible refine br_not ?_)) | ((with_reducible refine br_b (fun h => ?_) (fun h => ?_))) | ((with_reducible refine wr_i64 rfl ?ha ?hb ?_); (case ha => exact gB); (case hb => exact gB)) | ((with_reducible refine wr_u64 rfl ?ha ?hb ?_); (case ha => exact gB); (case hb => exact gB)) | ((with_reducible refine wr_u32 rfl ?ha ?hb ?_); (case ha => exact gB); (case hb => exact gB)) | ((with_reducible refine And.intro ?_ ?_)) | ((with_reducible refine True.intro)) | ((with_reducible refine Stp.go ?_))))); (all_goals (conv => whnf))
  exact hK
theorem xor_mask (q k : Nat) : (2 ^ k * q) ^^^ (2 ^ k * q + (2 ^ k - 1)) = 2 ^ k - 1 := by
  have hp := Nat.two_pow_pos k
  apply Nat.eq_of_testBit_eq
  intro i
  rw [Nat.testBit_xor, Nat.testBit_two_pow_mul_add q (show 2 ^ k - 1 < 2 ^ k by omega), show 2 ^ k * q = 2 ^ k * q + 0 by omega, Nat.testBit_two_pow_mul_add q hp]
  simp only [Nat.testBit_two_pow_sub_one]
  by_cases h : i < k <;> simp [h]
theorem bits_xor {a b : Nat} (ha : a < 4294967296) (hb : b < 4294967296) : bBits .xor .u32 (a : Int) (b : Int) = ((a ^^^ b : Nat) : Int) := by
  have hx : a ^^^ b < 4294967296 := Nat.xor_lt_two_pow (n := 32) ha hb
  rw [show bBits .xor .u32 (a : Int) (b : Int) = IntKind.u32.wrap ((BitVec.ofInt 32 (a : Int) ^^^ BitVec.ofInt 32 (b : Int) : BitVec 32).toNat : Int) from rfl, BitVec.toNat_xor, bv32 ha, bv32 hb, wrap_u32 (by omega) (by omega)]
/-- prefix.Common of a block -/
theorem cpCommon (lo k : Nat) (hk : k ≤ 32) (hm : lo % 2 ^ k = 0) (hb : lo + 2 ^ k ≤ 4294967296) {K : AV → List Vm.Obj → Prop} (hK : K (.agg [.v (.int .u32 (lo : Int)), .v (.int .i64 (32 - (k : Int)))]) []) :
    ACall Tryz.prog 67 [.v (.int .u32 (lo : Int)), .v (.int .u32 ((lo + 2 ^ k - 1 : Nat) : Int))] [] K := by
  have hp := Nat.two_pow_pos k
  have hq : lo = 2 ^ k * (lo / 2 ^ k) := by have := Nat.div_add_mod lo (2 ^ k); omega
  have hx : bBits .xor .u32 (lo : Int) ((lo + 2 ^ k - 1 : Nat) : Int) = ((2 ^ k - 1 : Nat) : Int) := by
    rw [bits_xor (by omega) (by omega)]
    congr 1
    rw [show lo + 2 ^ k - 1 = lo + (2 ^ k - 1) by omega, hq]
    exact xor_mask _ _
  have hpz : pz (32 - (k : Int)) = ((2 ^ k : Nat) : Int) := by
    unfold pz
    rw [show (32 - (32 - (k : Int))).toNat = k by omega]
  have ha : bBits .and .u32 (lo : Int) (4294967296 - pz (32 - (k : Int))) = lo := by
    rw [hpz, bits_and (by omega) (by omega) hk]
    rw [← Int.natCast_emod, hm]; simp
  have hlz : ∀ (K : AV → List Vm.Obj → Prop), K (.v (.int .i64 (32 - (k : Int)))) [] → ACall Tryz.prog 85 [.v (.int .u32 (bBits .xor .u32 (lo : Int) ((lo + 2 ^ k - 1 : Nat) : Int)))] [] K := fun K h => by rw [hx]; exact clz32 k hk h
  refine ofpCommon rfl rfl ?_
  (all_goals (repeat' ((conv => whnf); first | (with_reducible refine hlz _ ?_) | (with_reducible refine cpMask _ (by omega) (by omega) ?_) | ((with_reducible refine sl_full ?ha ?_); (case ha => exact gA)) | ((with_reducible refine Ob.intro ?ha ?_); (case ha => exact gC)) | ((with_reducible refine br_lt ?_)) | ((with_reducible refine br_lf ?_)) | ((with_reducible refine br_pos ?ha ?_); (case ha => exact gB)) | ((with_reducible refine br_neg ?ha ?_); (case ha => exact gB)) | ((with_reducible refine br_t ?ha ?_); (case ha => with_reducible assumption)) | ((with_reducible refine br_f ?ha ?_); (case ha => with_reducible assumption)) | ((with_reducible refine br_dec (fun h => ?_) (fun h => ?_))) | ((with_reducible refine br_not ?_)) | ((with_reducible refine br_b (fun h => ?_) (fun h => ?_))) | ((with_reducible refine wr_i64 rfl ?ha ?hb ?_); (case ha => exact gB); (case hb => exact gB)) | ((with_reducible refine wr_u64 rfl ?ha ?hb ?_); (case ha => exact gB); (case hb => exact gB)) | ((with_reducible refine wr_u32 rfl ?ha ?hb ?_); (case ha => exact gB); (case hb => exact gB)) | ((with_reducible refine And.intro ?_ ?_)) | ((with_reducible refine True.intro)) | ((with_reducible refine Stp.go ?_))))); (all_goals (conv => whnf))
  rw [ha]
  exact hK
/-- the largest block at lo that is no larger than n -/
def blkK (lo n : Nat) : Nat → Nat
  | 0 => 0
  | k + 1 => if lo % 2 ^ (k + 1) = 0 ∧ 2 ^ (k + 1) ≤ n then k + 1 else blkK lo n k
theorem blkK_spec (lo n : Nat) (hn : 1 ≤ n) : ∀ k, blkK lo n k ≤ k ∧ lo % 2 ^ blkK lo n k = 0 ∧ 2 ^ blkK lo n k ≤ n
  | 0 => ⟨Nat.le_refl _, by simp [blkK, Nat.mod_one], by simpa [blkK] using hn⟩
  | k + 1 => by
    unfold blkK
    split
    · rename_i h; exact ⟨Nat.le_refl _, h.1, h.2⟩
    · have := blkK_spec lo n hn k; exact ⟨by omega, this.2⟩
theorem blkK_max (lo n : Nat) : ∀ (k j : Nat), j ≤ k → lo % 2 ^ j = 0 → 2 ^ j ≤ n → j ≤ blkK lo n k
  | 0, j, hj, _, _ => by omega
  | k + 1, j, hj, h1, h2 => by
    unfold blkK
    split
    · exact hj
    · rename_i hn
      rcases Nat.lt_or_ge k j with h | h
      · have : j = k + 1 := by omega
        subst this
        exact absurd ⟨h1, h2⟩ hn
      · exact blkK_max lo n k j h h1 h2
def blks : Nat → Nat → Nat → List (Nat × Nat)
  | 0, _, _ => []
  | f + 1, lo, e => if lo < e then (lo, blkK lo (e - lo) 32) :: blks f (lo + 2 ^ blkK lo (e - lo) 32) e else []
theorem blks_fuel : ∀ (f g lo e : Nat), e - lo ≤ f → e - lo ≤ g → blks f lo e = blks g lo e
  | 0, 0, _, _, _, _ => rfl
  | 0, g + 1, lo, e, h, _ => by rw [blks, blks, if_neg (by omega)]
  | f + 1, 0, lo, e, _, h => by rw [blks, blks, if_neg (by omega)]
  | f + 1, g + 1, lo, e, h1, h2 => by
    rw [blks, blks]
    split
    · have := Nat.two_pow_pos (blkK lo (e - lo) 32)
      rw [blks_fuel f g _ _ (by omega) (by omega)]
    · rfl
theorem blks_len : ∀ (f lo e : Nat), (blks f lo e).length ≤ e - lo
  | 0, _, _ => Nat.zero_le _
  | f + 1, lo, e => by
    rw [blks]
    split
    · have h := blks_len f (lo + 2 ^ blkK lo (e - lo) 32) e
      have := Nat.two_pow_pos (blkK lo (e - lo) 32)
      simp only [List.length_cons]
      omega
    · simp
def blksOf (lo e : Nat) : List (Nat × Nat) := blks (e - lo) lo e
theorem blksOf_step {lo e : Nat} (h : lo < e) : blksOf lo e = (lo, blkK lo (e - lo) 32) :: blksOf (lo + 2 ^ blkK lo (e - lo) 32) e := by
  have := Nat.two_pow_pos (blkK lo (e - lo) 32)
  rw [blksOf, blksOf, show e - lo = (e - lo - 1) + 1 by omega, blks, if_pos h]
  rw [show e - lo - 1 + 1 = e - lo by omega]
  rw [blks_fuel (e - lo - 1) _ _ _ (by omega) (Nat.le_refl _)]
theorem blksOf_end {lo e : Nat} (h : e ≤ lo) : blksOf lo e = [] := by rw [blksOf, show e - lo = 0 by omega]; rfl
noncomputable abbrev encB (b : Nat × Nat) : AV := .agg [.v (.int .u32 (b.1 : Int)), .v (.int .u32 ((b.1 + 2 ^ b.2 - 1 : Nat) : Int))]
theorem sz_half {sz : Nat} : (sz : Int).tdiv 2 = ((sz / 2 : Nat) : Int) := rfl
/-- prefix.Blocks -/
theorem cpBlocks (lo hi : Nat) (h : lo ≤ hi) (h2 : hi ≤ 4294967295) {K : AV → List Vm.Obj → Prop} (hK : K (.lst ((blksOf lo (hi + 1)).map encB)) []) :
    ACall Tryz.prog 66 [.agg [.v (.int .u32 (lo : Int)), .v (.int .u32 (hi : Int))], .v (.int .i64 32)] [] K := by
  refine ofpBlocks rfl rfl ?_
  have w32 : IntKind.u64.wrap (1 * 2 ^ min (Int.toNat 32) IntKind.u64.bits) = 4294967296 := by decide
  (all_goals (repeat' ((conv => whnf); first | (with_reducible refine wr_is w32 ?_) | ((with_reducible refine sl_full ?ha ?_); (case ha => exact gA)) | ((with_reducible refine Ob.intro ?ha ?_); (case ha => exact gC)) | ((with_reducible refine br_lt ?_)) | ((with_reducible refine br_lf ?_)) | ((with_reducible refine br_pos ?ha ?_); (case ha => exact gB)) | ((with_reducible refine br_neg ?ha ?_); (case ha => exact gB)) | ((with_reducible refine br_t ?ha ?_); (case ha => with_reducible assumption)) | ((with_reducible refine br_f ?ha ?_); (case ha => with_reducible assumption)) | ((with_reducible refine br_dec (fun h => ?_) (fun h => ?_))) | ((with_reducible refine br_not ?_)) | ((with_reducible refine br_b (fun h => ?_) (fun h => ?_))) | ((with_reducible refine wr_i64 rfl ?ha ?hb ?_); (case ha => exact gB); (case hb => exact gB)) | ((with_reducible refine wr_u64 rfl ?ha ?hb ?_); (case ha => exact gB); (case hb => exact gB)) | ((with_reducible refine wr_u32 rfl ?ha ?hb ?_); (case ha => exact gB); (case hb => exact gB)) | ((with_reducible refine And.intro ?_ ?_)) | ((with_reducible refine True.intro)) | ((with_reducible refine Stp.go ?_))))); (all_goals (conv => whnf))
  refine Lp.intro (Nat × List (Nat × Nat)) (fun g => ⟨2, [(1, .arr 2 (g.2.map encB))], [(1, .v (.int .i64 32)), (5, .os 1 2 0 g.2.length), (6, .v (.int .u64 g.1)), (7, .v (.int .u64 ((hi : Int) + 1)))]⟩)
    (fun g => lo ≤ g.1 ∧ g.1 ≤ hi + 1 ∧ g.2.length ≤ g.1 - lo ∧ g.2 ++ blksOf g.1 (hi + 1) = blksOf lo (hi + 1)) (fun g => hi + 1 - g.1) (lo, []) ?_ ?_ ?_
  · exact ⟨Nat.le_refl _, by simp only; omega, Nat.zero_le _, rfl⟩
  · (refine Le.auto ?_; repeat' ((conv => whnf); first | with_reducible refine And.intro ?_ ?_ | with_reducible exact True.intro | rfl))
  rintro ⟨at_, out⟩ ⟨i1, i2, i3, i4⟩
  simp only at i1 i2 i3 i4 ⊢
  rcases Nat.lt_or_ge at_ (hi + 1) with hlt | hge
  · (all_goals (repeat' ((conv => whnf); first | (with_reducible refine wr_is w32 ?_) | ((with_reducible refine sl_full ?ha ?_); (case ha => exact gA)) | ((with_reducible refine Ob.intro ?ha ?_); (case ha => exact gC)) | ((with_reducible refine br_lt ?_)) | ((with_reducible refine br_lf ?_)) | ((with_reducible refine br_pos ?ha ?_); (case ha => exact gB)) | ((with_reducible refine br_neg ?ha ?_); (case ha => exact gB)) | ((with_reducible refine br_t ?ha ?_); (case ha => with_reducible assumption)) | ((with_reducible refine br_f ?ha ?_); (case ha => with_reducible assumption)) | ((with_reducible refine br_dec (fun h => ?_) (fun h => ?_))) | ((with_reducible refine br_not ?_)) | ((with_reducible refine br_b (fun h => ?_) (fun h => ?_))) | ((with_reducible refine wr_i64 rfl ?ha ?hb ?_); (case ha => exact gB); (case hb => exact gB)) | ((with_reducible refine wr_u64 rfl ?ha ?hb ?_); (case ha => exact gB); (case hb => exact gB)) | ((with_reducible refine wr_u32 rfl ?ha ?hb ?_); (case ha => exact gB); (case hb => exact gB)) | ((with_reducible refine And.intro ?_ ?_)) | ((with_reducible refine True.intro)) | ((with_reducible refine Stp.go ?_))))); (all_goals (conv => whnf))
    refine Lp.intro (Nat × Nat) (fun g => ⟨2, [(1, .arr 2 (out.map encB))], [(1, .v (.int .i64 32)), (5, .os 1 2 0 out.length), (6, .v (.int .u64 at_)), (7, .v (.int .u64 ((hi : Int) + 1))), (8, .v (.int .u64 g.2))]⟩)
      (fun g => g.1 ≤ 32 ∧ g.2 = 2 ^ g.1 ∧ blkK at_ (hi + 1 - at_) 32 = blkK at_ (hi + 1 - at_) g.1) (fun g => g.1) (32, 4294967296) ?_ ?_ ?_
    · exact ⟨Nat.le_refl _, by decide, rfl⟩
    · (refine Le.auto ?_; repeat' ((conv => whnf); first | with_reducible refine And.intro ?_ ?_ | with_reducible exact True.intro | rfl))
    rintro ⟨j, sz⟩ ⟨j1, j2, j3⟩
    simp only at j1 j2 j3 ⊢
    have hsz : 0 < sz := by rw [j2]; exact Nat.two_pow_pos j
    have hsz2 : sz ≤ 4294967296 := by rw [j2]; exact Nat.pow_le_pow_right (n := 2) (by omega) j1
    have hne : (sz : Int) ≠ 0 := by omega
    have hkeep : (at_ % sz ≠ 0 ∨ hi + 1 - at_ < sz) → 1 ≤ j ∧ sz / 2 = 2 ^ (j - 1) ∧ blkK at_ (hi + 1 - at_) j = blkK at_ (hi + 1 - at_) (j - 1) := by
      intro hc
      cases j with
      | zero => simp at j2; subst j2; omega
      | succ j =>
        refine ⟨by omega, by rw [j2, Nat.pow_succ, Nat.add_sub_cancel]; omega, ?_⟩
        rw [blkK, if_neg (by rw [← j2]; omega), Nat.add_sub_cancel]
    have hmod : (at_ : Int).tmod (sz : Int) = ((at_ % sz : Nat) : Int) := rfl
    (all_goals (repeat' ((conv => whnf); first | (with_reducible refine Ob.intro hne ?_) | (with_reducible refine wr_u64 sz_half (by omega) (by omega) ?_) | ((with_reducible refine sl_full ?ha ?_); (case ha => exact gA)) | ((with_reducible refine Ob.intro ?ha ?_); (case ha => exact gC)) | ((with_reducible refine br_lt ?_)) | ((with_reducible refine br_lf ?_)) | ((with_reducible refine br_pos ?ha ?_); (case ha => exact gB)) | ((with_reducible refine br_neg ?ha ?_); (case ha => exact gB)) | ((with_reducible refine br_t ?ha ?_); (case ha => with_reducible assumption)) | ((with_reducible refine br_f ?ha ?_); (case ha => with_reducible assumption)) | ((with_reducible refine br_dec (fun h => ?_) (fun h => ?_))) | ((with_reducible refine br_not ?_)) | ((with_reducible refine br_b (fun h => ?_) (fun h => ?_))) | ((with_reducible refine wr_i64 rfl ?ha ?hb ?_); (case ha => exact gB); (case hb => exact gB)) | ((with_reducible refine wr_u64 rfl ?ha ?hb ?_); (case ha => exact gB); (case hb => exact gB)) | ((with_reducible refine wr_u32 rfl ?ha ?hb ?_); (case ha => exact gB); (case hb => exact gB)) | ((with_reducible refine And.intro ?_ ?_)) | ((with_reducible refine True.intro)) | ((with_reducible refine Stp.go ?_))))); (all_goals (conv => whnf))
    · obtain ⟨k1, k2, k3⟩ := hkeep (.inr (by omega))
      refine ⟨(j - 1, sz / 2), ⟨by simp only; omega, k2, by rw [j3, k3]⟩, by simp only; omega, ?_⟩
      simp only
      (refine Le.auto ?_; repeat' ((conv => whnf); first | with_reducible refine And.intro ?_ ?_ | with_reducible exact True.intro | rfl))
    · rename_i hm
      rw [hmod] at hm
      have hk : blkK at_ (hi + 1 - at_) 32 = j := by
        rw [j3]
        cases j with
        | zero => rfl
        | succ j => rw [blkK, if_pos (by rw [← j2]; omega)]
      have he : encB (at_, j) = .agg [.v (.int .u32 (at_ : Int)), .v (.int .u32 ((at_ : Int) + sz - 1))] := by
        have : ((at_ + 2 ^ j - 1 : Nat) : Int) = (at_ : Int) + sz - 1 := by rw [← j2]; omega
        simp only [encB, this]
      refine ⟨(at_ + sz, out ++ [(at_, j)]), ⟨by simp only; omega, by simp only; omega, by simp only [List.length_append, List.length_cons, List.length_nil]; omega, ?_⟩, by simp only; omega, ?_⟩
      · simp only
        rw [← i4, blksOf_step hlt, hk, ← j2, List.append_assoc, List.singleton_append]
      · simp only [List.map_append, List.length_append, List.map_cons, List.map_nil, List.length_cons, List.length_nil]
        rw [he]
        (refine Le.auto ?_; repeat' ((conv => whnf); first | with_reducible refine And.intro ?_ ?_ | with_reducible exact True.intro | rfl))
    · have hm := h
      rw [hmod] at hm
      obtain ⟨k1, k2, k3⟩ := hkeep (.inl (by omega))
      refine ⟨(j - 1, sz / 2), ⟨by simp only; omega, k2, by rw [j3, k3]⟩, by simp only; omega, ?_⟩
      simp only
      (refine Le.auto ?_; repeat' ((conv => whnf); first | with_reducible refine And.intro ?_ ?_ | with_reducible exact True.intro | rfl))
  · (all_goals (repeat' ((conv => whnf); first | ((with_reducible refine sl_full ?ha ?_); (case ha => exact gA)) | ((with_reducible refine Ob.intro ?ha ?_); (case ha => exact gC)) | ((with_reducible refine br_lt ?_)) | ((with_reducible refine br_lf ?_)) | ((with_reducible refine br_pos ?ha ?_); (case ha => exact gB)) | ((with_reducible refine br_neg ?ha ?_); (case ha => exact gB)) | ((with_reducible refine br_t ?ha ?_); (case ha => with_reducible assumption)) | ((with_reducible refine br_f ?ha ?_); (case ha => with_reducible assumption)) | ((with_reducible refine br_dec (fun h => ?_) (fun h => ?_))) | ((with_reducible refine br_not ?_)) | ((with_reducible refine br_b (fun h => ?_) (fun h => ?_))) | ((with_reducible refine wr_i64 rfl ?ha ?hb ?_); (case ha => exact gB); (case hb => exact gB)) | ((with_reducible refine wr_u64 rfl ?ha ?hb ?_); (case ha => exact gB); (case hb => exact gB)) | ((with_reducible refine wr_u32 rfl ?ha ?hb ?_); (case ha => exact gB); (case hb => exact gB)) | ((with_reducible refine And.intro ?_ ?_)) | ((with_reducible refine True.intro)) | ((with_reducible refine Stp.go ?_))))); (all_goals (conv => whnf))
    rw [blksOf_end (by omega), List.append_nil] at i4
    rw [i4]
    exact hK
theorem blks_mem : ∀ (f lo e : Nat) (b : Nat × Nat), b ∈ blks f lo e → lo ≤ b.1 ∧ b.2 ≤ 32 ∧ b.1 % 2 ^ b.2 = 0 ∧ b.1 + 2 ^ b.2 ≤ e
  | 0, _, _, b, h => by simp [blks] at h
  | f + 1, lo, e, b, h => by
    rw [blks] at h
    split at h
    · rename_i hlt
      obtain ⟨s1, s2, s3⟩ := blkK_spec lo (e - lo) (by omega) 32
      rcases List.mem_cons.1 h with rfl | h
      · exact ⟨Nat.le_refl _, s1, s2, by simp only; omega⟩
      · have := blks_mem f _ e b h
        exact ⟨by omega, this.2⟩
    · simp at h
/-- a range as prefixes -/
def splitR (r : Rg) : List Pf := (blksOf r.lo.toNat (r.hi.toNat + 1)).map fun b => mkPf b.1 (32 - (b.2 : Int))
theorem splitR_len (r : Rg) : (splitR r).length ≤ 4294967296 := by
  have h1 := r.h1
  rw [splitR, List.length_map, blksOf]
  have := blks_len (r.hi.toNat + 1 - r.lo.toNat) r.lo.toNat (r.hi.toNat + 1)
  omega
/-- prefix.Split -/
theorem cpSplit (r : Rg) (hle : r.lo ≤ r.hi) {K : AV → List Vm.Obj → Prop} (hK : K (.lst ((splitR r).map encP)) []) : ACall Tryz.prog 41 [encR r] [] K := by
  have b0 := r.l0; have b1 := r.l1; have b2 := r.h0; have b3 := r.h1
  obtain ⟨lo, hlo⟩ := Int.eq_ofNat_of_zero_le b0
  obtain ⟨hi, hhi⟩ := Int.eq_ofNat_of_zero_le b2
  have hlen := splitR_len r
  have hs : splitR r = (blksOf lo (hi + 1)).map fun b => mkPf b.1 (32 - (b.2 : Int)) := by rw [splitR, hlo, hhi]; rfl
  have hln : (splitR r).length = (blksOf lo (hi + 1)).length := by rw [hs, List.length_map]
  rw [show encR r = .agg [.v (.int .u32 (lo : Int)), .v (.int .u32 (hi : Int))] by rw [encR, hlo, hhi]]
  refine ofpSplit rfl rfl ?_
  (all_goals (repeat' ((conv => whnf); first | (with_reducible refine cpBlocks lo hi (by omega) (by omega) ?_) | ((with_reducible refine sl_full ?ha ?_); (case ha => exact gA)) | ((with_reducible refine Ob.intro ?ha ?_); (case ha => exact gC)) | ((with_reducible refine br_lt ?_)) | ((with_reducible refine br_lf ?_)) | ((with_reducible refine br_pos ?ha ?_); (case ha => exact gB)) | ((with_reducible refine br_neg ?ha ?_); (case ha => exact gB)) | ((with_reducible refine br_t ?ha ?_); (case ha => with_reducible assumption)) | ((with_reducible refine br_f ?ha ?_); (case ha => with_reducible assumption)) | ((with_reducible refine br_dec (fun h => ?_) (fun h => ?_))) | ((with_reducible refine br_not ?_)) | ((with_reducible refine br_b (fun h => ?_) (fun h => ?_))) | ((with_reducible refine wr_i64 rfl ?ha ?hb ?_); (case ha => exact gB); (case hb => exact gB)) | ((with_reducible refine wr_u64 rfl ?ha ?hb ?_); (case ha => exact gB); (case hb => exact gB)) | ((with_reducible refine wr_u32 rfl ?ha ?hb ?_); (case ha => exact gB); (case hb => exact gB)) | ((with_reducible refine And.intro ?_ ?_)) | ((with_reducible refine True.intro)) | ((with_reducible refine Stp.go ?_))))); (all_goals (conv => whnf))
  rw [hs] at hK
  have hmem := blks_mem (hi + 1 - lo) lo (hi + 1)
  rw [← blksOf] at hmem
  generalize blksOf lo (hi + 1) = L at *
  refine Lp.intro Nat (fun k => ⟨2, [(1, .arr 2 (((L.take k).map fun b => mkPf b.1 (32 - (b.2 : Int))).map encP))], [(3, .os 1 2 0 k), (7, .lst (L.map encB)), (8, .v (.int .i64 (L.map encB).length)), (9, .v (.int .i64 k))]⟩) (fun k => k ≤ L.length) (fun k => L.length - k) 0 ?_ ?_ ?_
  · exact Nat.zero_le _
  · (refine Le.auto ?_; repeat' ((conv => whnf); first | with_reducible refine And.intro ?_ ?_ | with_reducible exact True.intro | rfl))
  intro k hk
  rcases Nat.lt_or_ge k L.length with hkl | hkl
  · obtain ⟨b, hb⟩ : ∃ b, L[k]? = some b := ⟨_, List.getElem?_eq_getElem hkl⟩
    obtain ⟨m1, m2, m3, m4⟩ := hmem b (List.mem_of_getElem? hb)
    have hl : (((L.take k).map fun b => mkPf b.1 (32 - (b.2 : Int))).map encP).length = k := by simp; omega
    (all_goals (repeat' ((conv => whnf); first | (with_reducible refine in_map hkl ?_) | (with_reducible refine ix_map hb ?_) | (with_reducible refine cpCommon b.1 b.2 m2 m3 (by omega) ?_) | ((with_reducible refine sl_full ?ha ?_); (case ha => exact gA)) | ((with_reducible refine Ob.intro ?ha ?_); (case ha => exact gC)) | ((with_reducible refine br_lt ?_)) | ((with_reducible refine br_lf ?_)) | ((with_reducible refine br_pos ?ha ?_); (case ha => exact gB)) | ((with_reducible refine br_neg ?ha ?_); (case ha => exact gB)) | ((with_reducible refine br_t ?ha ?_); (case ha => with_reducible assumption)) | ((with_reducible refine br_f ?ha ?_); (case ha => with_reducible assumption)) | ((with_reducible refine br_dec (fun h => ?_) (fun h => ?_))) | ((with_reducible refine br_not ?_)) | ((with_reducible refine br_b (fun h => ?_) (fun h => ?_))) | ((with_reducible refine wr_i64 rfl ?ha ?hb ?_); (case ha => exact gB); (case hb => exact gB)) | ((with_reducible refine wr_u64 rfl ?ha ?hb ?_); (case ha => exact gB); (case hb => exact gB)) | ((with_reducible refine wr_u32 rfl ?ha ?hb ?_); (case ha => exact gB); (case hb => exact gB)) | ((with_reducible refine And.intro ?_ ?_)) | ((with_reducible refine True.intro)) | ((with_reducible refine Stp.go ?_))))); (all_goals (conv => whnf))
    refine ⟨k + 1, by omega, by omega, ?_⟩
    have e : ((L.take (k + 1)).map fun b => mkPf b.1 (32 - (b.2 : Int))).map encP = ((L.take k).map fun b => mkPf b.1 (32 - (b.2 : Int))).map encP ++ [.agg [.v (.int .u32 (b.1 : Int)), .v (.int .i64 (32 - (b.2 : Int)))]] := by
      have := Nat.two_pow_pos b.2
      rw [List.take_add_one, hb]
      simp [encP, mkPf_addr (a := (b.1 : Int)) (by omega) (by omega), mkPf_bits]
    rw [e]
    (refine Le.auto ?_; repeat' ((conv => whnf); first | with_reducible refine And.intro ?_ ?_ | with_reducible exact True.intro | rfl))
  · (all_goals (repeat' ((conv => whnf); first | (with_reducible refine sl_full (by rw [List.take_of_length_le hkl]; simp; omega) ?_) | ((with_reducible refine sl_full ?ha ?_); (case ha => exact gA)) | ((with_reducible refine Ob.intro ?ha ?_); (case ha => exact gC)) | ((with_reducible refine br_lt ?_)) | ((with_reducible refine br_lf ?_)) | ((with_reducible refine br_pos ?ha ?_); (case ha => exact gB)) | ((with_reducible refine br_neg ?ha ?_); (case ha => exact gB)) | ((with_reducible refine br_t ?ha ?_); (case ha => with_reducible assumption)) | ((with_reducible refine br_f ?ha ?_); (case ha => with_reducible assumption)) | ((with_reducible refine br_dec (fun h => ?_) (fun h => ?_))) | ((with_reducible refine br_not ?_)) | ((with_reducible refine br_b (fun h => ?_) (fun h => ?_))) | ((with_reducible refine wr_i64 rfl ?ha ?hb ?_); (case ha => exact gB); (case hb => exact gB)) | ((with_reducible refine wr_u64 rfl ?ha ?hb ?_); (case ha => exact gB); (case hb => exact gB)) | ((with_reducible refine wr_u32 rfl ?ha ?hb ?_); (case ha => exact gB); (case hb => exact gB)) | ((with_reducible refine And.intro ?_ ?_)) | ((with_reducible refine True.intro)) | ((with_reducible refine Stp.go ?_))))); (all_goals (conv => whnf))
    rw [List.take_of_length_le hkl]
    exact hK
theorem cpSplitA (r : Rg) (hle : r.lo ≤ r.hi) {K : AV → List Vm.Obj → Prop} (hK : K (.lst ((splitR r).map encP)) []) : ACall Tryz.prog 41 [.agg [.v (.int .u32 r.lo), .v (.int .u32 r.hi)]] [] K := cpSplit r hle hK
theorem flat_len (sp : List Rg) : ∀ k, ((sp.take k).flatMap splitR).length ≤ k * 4294967296 := by
  intro k
  induction k with
  | zero => exact Nat.zero_le _
  | succ k ih =>
    rw [List.take_add_one, List.flatMap_append, List.length_append, Nat.succ_mul]
    refine Nat.add_le_add ih ?_
    cases hk : sp[k]? with
    | none => exact Nat.zero_le _
    | some r =>
      have e : (Option.toList (some r)).flatMap splitR = splitR r := by simp [Option.toList]
      rw [e]; exact splitR_len r
/-- the free addresses as prefixes -/
noncomputable def freePf (t : Tp) : List Pf := if topB t = true then (freeOf t.pools t.edges).flatMap splitR else []
/-- addressing.Free -/
theorem caFreeP (t : Tp) {K : AV → List Vm.Obj → Prop} (hK : K (.lst ((freePf t).map encP)) []) : ACall Tryz.prog 21 [encT t] [] K := by
  refine ACall.weak (ofaFreeP rfl rfl ?_)
  (all_goals (repeat' ((conv => whnf); first | (with_reducible refine ctVal t ?_) | ((with_reducible refine sl_full ?ha ?_); (case ha => exact gA)) | ((with_reducible refine Ob.intro ?ha ?_); (case ha => exact gC)) | ((with_reducible refine br_lt ?_)) | ((with_reducible refine br_lf ?_)) | ((with_reducible refine br_pos ?ha ?_); (case ha => exact gB)) | ((with_reducible refine br_neg ?ha ?_); (case ha => exact gB)) | ((with_reducible refine br_t ?ha ?_); (case ha => with_reducible assumption)) | ((with_reducible refine br_f ?ha ?_); (case ha => with_reducible assumption)) | ((with_reducible refine br_dec (fun h => ?_) (fun h => ?_))) | ((with_reducible refine br_not ?_)) | ((with_reducible refine br_b (fun h => ?_) (fun h => ?_))) | ((with_reducible refine wr_i64 rfl ?ha ?hb ?_); (case ha => exact gB); (case hb => exact gB)) | ((with_reducible refine wr_u64 rfl ?ha ?hb ?_); (case ha => exact gB); (case hb => exact gB)) | ((with_reducible refine wr_u32 rfl ?ha ?hb ?_); (case ha => exact gB); (case hb => exact gB)) | ((with_reducible refine And.intro ?_ ?_)) | ((with_reducible refine True.intro)) | ((with_reducible refine Stp.go ?_))))); (all_goals (conv => whnf))
  · have ht := topB_iff.1 h
    have := ht.e1; have := ht.p1
    have hfp : ∀ p, p ∈ t.pools → p.okP := fun p hp => by
      obtain ⟨i, hi⟩ := List.mem_iff_getElem?.1 hp
      exact (ht.pool i p hi).1
    have hfe : ∀ e, e ∈ t.edges → e.pf.okP := fun e hm => by
      obtain ⟨i, hi⟩ := List.mem_iff_getElem?.1 hm
      exact (ht.edge i e hi).1.2.2.2.2.2.1
    (all_goals (repeat' ((conv => whnf); first | (with_reducible refine caFree t hfp hfe (by omega) (by omega) fun sp s1 s2 s3 => ?_) | ((with_reducible refine sl_full ?ha ?_); (case ha => exact gA)) | ((with_reducible refine Ob.intro ?ha ?_); (case ha => exact gC)) | ((with_reducible refine br_lt ?_)) | ((with_reducible refine br_lf ?_)) | ((with_reducible refine br_pos ?ha ?_); (case ha => exact gB)) | ((with_reducible refine br_neg ?ha ?_); (case ha => exact gB)) | ((with_reducible refine br_t ?ha ?_); (case ha => with_reducible assumption)) | ((with_reducible refine br_f ?ha ?_); (case ha => with_reducible assumption)) | ((with_reducible refine br_dec (fun h => ?_) (fun h => ?_))) | ((with_reducible refine br_not ?_)) | ((with_reducible refine br_b (fun h => ?_) (fun h => ?_))) | ((with_reducible refine wr_i64 rfl ?ha ?hb ?_); (case ha => exact gB); (case hb => exact gB)) | ((with_reducible refine wr_u64 rfl ?ha ?hb ?_); (case ha => exact gB); (case hb => exact gB)) | ((with_reducible refine wr_u32 rfl ?ha ?hb ?_); (case ha => exact gB); (case hb => exact gB)) | ((with_reducible refine And.intro ?_ ?_)) | ((with_reducible refine True.intro)) | ((with_reducible refine Stp.go ?_))))); (all_goals (conv => whnf))
    have hf : freePf t = sp.flatMap splitR := by rw [freePf, if_pos h, freeOf, canonOf_eq s1 s2]
    rw [hf] at hK
    have hlen := flat_len sp
    have hset : ∀ k, (((sp.take k).flatMap splitR).map encP).length = ((sp.take k).flatMap splitR).length := fun k => List.length_map ..
    refine Lp.intro Nat (fun k => ⟨2, [(0, .arr 2 (((sp.take k).flatMap splitR).map encP)), (1, .arr 2 (sp.map encR))], [(3, .os 0 2 0 ((sp.take k).flatMap splitR).length), (10, .os 1 2 0 sp.length), (11, .v (.int .i64 sp.length)), (12, .v (.int .i64 k))]⟩) (fun k => k ≤ sp.length) (fun k => sp.length - k) 0 ?_ ?_ ?_
    · exact Nat.zero_le _
    · (refine Le.auto ?_; repeat' ((conv => whnf); first | with_reducible refine And.intro ?_ ?_ | with_reducible exact True.intro | rfl))
    intro k hk
    rcases Nat.lt_or_ge k sp.length with hkl | hkl
    · obtain ⟨r, hr⟩ : ∃ r, sp[k]? = some r := ⟨_, List.getElem?_eq_getElem hkl⟩
      have hr0 : sp[0 + k]? = some r := by rw [Nat.zero_add]; exact hr
      have hk1 := hlen k
      have hk2 := splitR_len r
      have hk3 := hset k
      have hle := s1.1 r (List.mem_of_getElem? hr)
      (all_goals (repeat' ((conv => whnf); first | (with_reducible refine in_nat hkl ?_) | (with_reducible refine ix_map hr0 ?_) | (with_reducible refine cpSplitA r hle ?_) | (with_reducible refine Ob.intro ⟨by rw [List.length_map]; omega, by rw [List.forall_mem_map]; intro _ _; rfl⟩ ?_) | ((with_reducible refine sl_full ?ha ?_); (case ha => exact gA)) | ((with_reducible refine Ob.intro ?ha ?_); (case ha => exact gC)) | ((with_reducible refine br_lt ?_)) | ((with_reducible refine br_lf ?_)) | ((with_reducible refine br_pos ?ha ?_); (case ha => exact gB)) | ((with_reducible refine br_neg ?ha ?_); (case ha => exact gB)) | ((with_reducible refine br_t ?ha ?_); (case ha => with_reducible assumption)) | ((with_reducible refine br_f ?ha ?_); (case ha => with_reducible assumption)) | ((with_reducible refine br_dec (fun h => ?_) (fun h => ?_))) | ((with_reducible refine br_not ?_)) | ((with_reducible refine br_b (fun h => ?_) (fun h => ?_))) | ((with_reducible refine wr_i64 rfl ?ha ?hb ?_); (case ha => exact gB); (case hb => exact gB)) | ((with_reducible refine wr_u64 rfl ?ha ?hb ?_); (case ha => exact gB); (case hb => exact gB)) | ((with_reducible refine wr_u32 rfl ?ha ?hb ?_); (case ha => exact gB); (case hb => exact gB)) | ((with_reducible refine And.intro ?_ ?_)) | ((with_reducible refine True.intro)) | ((with_reducible refine Stp.go ?_))))); (all_goals (conv => whnf))
      refine ⟨k + 1, by omega, by omega, ?_⟩
      have e : (sp.take (k + 1)).flatMap splitR = (sp.take k).flatMap splitR ++ splitR r := by rw [List.take_add_one, hr, List.flatMap_append]; simp [Option.toList]
      have hl : (splitR r).length = ((splitR r).map encP).length := (List.length_map ..).symm
      rw [e, List.map_append, List.length_append, hl]
      (refine Le.auto ?_; repeat' ((conv => whnf); first | with_reducible refine And.intro ?_ ?_ | with_reducible exact True.intro | rfl))
    · (all_goals (repeat' ((conv => whnf); first | (with_reducible refine sl_full (hset k) ?_) | ((with_reducible refine sl_full ?ha ?_); (case ha => exact gA)) | ((with_reducible refine Ob.intro ?ha ?_); (case ha => exact gC)) | ((with_reducible refine br_lt ?_)) | ((with_reducible refine br_lf ?_)) | ((with_reducible refine br_pos ?ha ?_); (case ha => exact gB)) | ((with_reducible refine br_neg ?ha ?_); (case ha => exact gB)) | ((with_reducible refine br_t ?ha ?_); (case ha => with_reducible assumption)) | ((with_reducible refine br_f ?ha ?_); (case ha => with_reducible assumption)) | ((with_reducible refine br_dec (fun h => ?_) (fun h => ?_))) | ((with_reducible refine br_not ?_)) | ((with_reducible refine br_b (fun h => ?_) (fun h => ?_))) | ((with_reducible refine wr_i64 rfl ?ha ?hb ?_); (case ha => exact gB); (case hb => exact gB)) | ((with_reducible refine wr_u64 rfl ?ha ?hb ?_); (case ha => exact gB); (case hb => exact gB)) | ((with_reducible refine wr_u32 rfl ?ha ?hb ?_); (case ha => exact gB); (case hb => exact gB)) | ((with_reducible refine And.intro ?_ ?_)) | ((with_reducible refine True.intro)) | ((with_reducible refine Stp.go ?_))))); (all_goals (conv => whnf))
      rw [List.take_of_length_le hkl]
      exact ⟨_, Weak.refl, hK⟩
  · have hf : freePf t = [] := by rw [freePf, if_neg (by rw [h]; simp)]
    rw [hf] at hK
    exact ⟨_, Weak.nils, hK⟩
end Go.Proofs.YtgcplfplbcpemaaGreat

set_option linter.unusedVariables false
set_option linter.unusedSimpArgs false
set_option maxRecDepth 20000
set_option maxHeartbeats 4000000
namespace Go.Proofs.YtgcplfplbcpemaaGreat
open Go Go.Vm

/-- addressing.Fits -/
theorem cfits (t : Tp) {K : AV → List Vm.Obj → Prop} (hK : K (.sb (decide (planE t = 0))) []) : ACall Tryz.prog 18 [encT t] [] K := by
  refine offits rfl rfl ?_
  (all_goals (repeat' ((conv => whnf); first | (with_reducible refine cplan t ?_) | ((with_reducible refine sl_full ?ha ?_); (case ha => exact gA)) | ((with_reducible refine Ob.intro ?ha ?_); (case ha => exact gC)) | ((with_reducible refine br_lt ?_)) | ((with_reducible refine br_lf ?_)) | ((with_reducible refine br_pos ?ha ?_); (case ha => exact gB)) | ((with_reducible refine br_neg ?ha ?_); (case ha => exact gB)) | ((with_reducible refine br_t ?ha ?_); (case ha => with_reducible assumption)) | ((with_reducible refine br_f ?ha ?_); (case ha => with_reducible assumption)) | ((with_reducible refine br_dec (fun h => ?_) (fun h => ?_))) | ((with_reducible refine br_not ?_)) | ((with_reducible refine br_b (fun h => ?_) (fun h => ?_))) | ((with_reducible refine wr_i64 rfl ?ha ?hb ?_); (case ha => exact gB); (case hb => exact gB)) | ((with_reducible refine wr_u64 rfl ?ha ?hb ?_); (case ha => exact gB); (case hb => exact gB)) | ((with_reducible refine wr_u32 rfl ?ha ?hb ?_); (case ha => exact gB); (case hb => exact gB)) | ((with_reducible refine And.intro ?_ ?_)) | ((with_reducible refine True.intro)) | ((with_reducible refine Stp.go ?_))))); (all_goals (conv => whnf))
  exact hK
theorem topB_saneT : topB saneT = true := topB_true (topOk_sane _ (.inl rfl))
theorem topB_saneU : topB saneU = true := topB_true (topOk_sane _ (.inr rfl))
theorem free_T1 : (freePf saneT).length = 1 := by
  rw [freePf, if_pos topB_saneT, free_saneT]
  simp only [List.flatMap_cons, List.flatMap_nil, List.append_nil, splitR, List.length_map]
  rw [mkR_lo (by decide) (by decide) (by decide) (by decide), mkR_hi (by decide) (by decide) (by decide) (by decide)]
  rw [show (167772160 : Int).toNat = 167772160 from rfl, show (167772415 : Int).toNat + 1 = 167772416 from rfl, blksOf_step (by decide), show blkK 167772160 (167772416 - 167772160) 32 = 8 by decide, blksOf_end (by decide)]
  rfl
theorem free_U0 : freePf saneU = [] := by rw [freePf, if_pos topB_saneU, free_saneU]; rfl
theorem cpl1 {K : AV → List Vm.Obj → Prop} (hK : K (.tup [encT saneU, .v (.int .i64 0)]) []) : ACall Tryz.prog 12 [encT saneT] [] K := cplan saneT (by rw [sane_plan.1, sane_plan.2]; exact hK)
theorem cpl2 {K : AV → List Vm.Obj → Prop} (hK : K (.sb true) []) : ACall Tryz.prog 18 [encT saneT] [] K := cfits saneT (by rw [sane_plan.2]; exact hK)
theorem cpl3 {K : AV → List Vm.Obj → Prop} (hK : ∀ l, l.length = 1 → K (.lst l) []) : ACall Tryz.prog 21 [encT saneT] [] K := caFreeP saneT (hK _ (by rw [List.length_map, free_T1]))
theorem cpl4 {K : AV → List Vm.Obj → Prop} (hK : ∀ l, l.length = 0 → K (.lst l) []) : ACall Tryz.prog 21 [encT saneU] [] K := caFreeP saneU (hK _ (by rw [List.length_map, free_U0]; rfl))
/-- nsglaw12.sane -/
theorem csane {K : AV → List Vm.Obj → Prop} (hK : K (.sb true) []) : ACall Tryz.prog 11 [] [] K := by
  refine ACall.bool (ofsane12 rfl rfl ?_)
  (all_goals (repeat' ((conv => whnf); first | (with_reducible refine Lp.times 5 ?_) | (refine in_c (by decide) ?_) | (refine Ix.intro rfl ?_) | (refine cpl1 ?_) | (refine cpl2 ?_) | (refine cpl3 fun l hl => ?_) | (refine cpl4 fun l hl => ?_) | (refine eqv_of (b := true) rfl rfl (by kernel_rfl) (by kernel_rfl) ?_) | ((with_reducible refine sl_full ?ha ?_); (case ha => exact gA)) | ((with_reducible refine Ob.intro ?ha ?_); (case ha => exact gC)) | ((with_reducible refine br_lt ?_)) | ((with_reducible refine br_lf ?_)) | ((with_reducible refine br_pos ?ha ?_); (case ha => exact gB)) | ((with_reducible refine br_neg ?ha ?_); (case ha => exact gB)) | ((with_reducible refine br_t ?ha ?_); (case ha => with_reducible assumption)) | ((with_reducible refine br_f ?ha ?_); (case ha => with_reducible assumption)) | ((with_reducible refine br_dec (fun h => ?_) (fun h => ?_))) | ((with_reducible refine br_not ?_)) | ((with_reducible refine br_b (fun h => ?_) (fun h => ?_))) | ((with_reducible refine wr_i64 rfl ?ha ?hb ?_); (case ha => exact gB); (case hb => exact gB)) | ((with_reducible refine wr_u64 rfl ?ha ?hb ?_); (case ha => exact gB); (case hb => exact gB)) | ((with_reducible refine wr_u32 rfl ?ha ?hb ?_); (case ha => exact gB); (case hb => exact gB)) | ((with_reducible refine And.intro ?_ ?_)) | ((with_reducible refine True.intro)) | ((with_reducible refine Stp.go ?_))))); (all_goals (conv => whnf))
  all_goals first
    | exact absurd (by decide) h
    | exact absurd rfl h
    | (simp only [List.length_nil, hl] at h; omega)
    | exact fin_s hK (by simp [hl])
end Go.Proofs.YtgcplfplbcpemaaGreat

