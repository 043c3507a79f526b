/- The functions of the seat as the machine takes them: contexts, bodies, contracts out of the code. Printed by gsctx.py. Prefixes: contracts. The functions of the seat as the machine takes them: contexts, bodies, contracts out of the code. Printed by gsctx.py. Names: contracts. Topologies as data; searching by name. Topologies: devices and edges by name; what is valid by itself. -/
import Derived.Test.YtgcplfplbcpemaaGreatProg
import Derived.Test.YtgcplfplbcpemaaGreatM5
set_option linter.unusedVariables false
set_option maxRecDepth 20000
namespace Go.Proofs.YtgcplfplbcpemaaGreat
open Go Go.Vm

/-- netsegment/prefix.mask -/
noncomputable def gpMask : Ctx := { N := 7, np := 0, own := fun _ => false, plan := fun _ => none, hints := fun _ => [], cut := fun _ => false }
noncomputable def bpMask : Code := match Tryz.f75.body with | some c => c | none => .skip
theorem ofpMask {args : List AV} {hs : List Vm.Obj} {K : AV → List Vm.Obj → Prop} (hp : Nat.beq gpMask.np hs.length = true) (ha : Nat.ble args.length 7 = true) (hq : initQ hs args fun σ => codeQ Tryz.prog gpMask bpMask σ (retQ Tryz.prog gpMask Tryz.f75.results.toList K)) : ACall Tryz.prog 75 args hs K :=
  ACall.of_code (Γ := gpMask) Tryz.func75 (by kernel_rfl) (by kernel_rfl) (by kernel_rfl) (by kernel_rfl) (Nat.eq_of_beq_eq_true hp) ha hq
/-- netsegment/prefix.Valid -/
noncomputable def gpVal : Ctx := { N := 20, np := 0, own := fun _ => false, plan := fun i => match Nat.beq i 1 with | true => some (lin [(0, true), (1, true), (2, true), (3, true), (4, true), (5, true), (6, true), (7, true), (8, true), (9, true), (10, true), (11, true), (12, true), (13, false), (14, true), (15, true), (16, true), (17, true)]) | false => none, hints := fun _ => [], cut := fun _ => false }
noncomputable def bpVal : Code := match Tryz.f48.body with | some c => c | none => .skip
theorem ofpVal {args : List AV} {hs : List Vm.Obj} {K : AV → List Vm.Obj → Prop} (hp : Nat.beq gpVal.np hs.length = true) (ha : Nat.ble args.length 20 = true) (hq : initQ hs args fun σ => codeQ Tryz.prog gpVal bpVal σ (retQ Tryz.prog gpVal Tryz.f48.results.toList K)) : ACall Tryz.prog 48 args hs K :=
  ACall.of_code (Γ := gpVal) Tryz.func48 (by kernel_rfl) (by kernel_rfl) (by kernel_rfl) (by kernel_rfl) (Nat.eq_of_beq_eq_true hp) ha hq
/-- netsegment/prefix.Of -/
noncomputable def gpOf : Ctx := { N := 18, np := 0, own := fun _ => false, plan := fun i => match Nat.beq i 3 with | true => some (lin [(0, true), (1, true), (2, true), (3, true), (4, true), (5, true), (6, false), (7, true), (8, true), (9, true), (10, false), (11, true)]) | false => none, hints := fun _ => [], cut := fun _ => false }
noncomputable def bpOf : Code := match Tryz.f53.body with | some c => c | none => .skip
theorem ofpOf {args : List AV} {hs : List Vm.Obj} {K : AV → List Vm.Obj → Prop} (hp : Nat.beq gpOf.np hs.length = true) (ha : Nat.ble args.length 18 = true) (hq : initQ hs args fun σ => codeQ Tryz.prog gpOf bpOf σ (retQ Tryz.prog gpOf Tryz.f53.results.toList K)) : ACall Tryz.prog 53 args hs K :=
  ACall.of_code (Γ := gpOf) Tryz.func53 (by kernel_rfl) (by kernel_rfl) (by kernel_rfl) (by kernel_rfl) (Nat.eq_of_beq_eq_true hp) ha hq
/-- netsegment/prefix.Contains -/
noncomputable def gpCon : Ctx := { N := 17, np := 0, own := fun _ => false, plan := fun i => match Nat.beq i 1 with | true => some (lin [(0, true), (1, false), (2, true), (3, true), (4, true), (5, true), (8, true), (9, true), (6, false), (7, true), (10, true), (11, true), (12, true)]) | false => none, hints := fun _ => [], cut := fun _ => false }
noncomputable def bpCon : Code := match Tryz.f86.body with | some c => c | none => .skip
theorem ofpCon {args : List AV} {hs : List Vm.Obj} {K : AV → List Vm.Obj → Prop} (hp : Nat.beq gpCon.np hs.length = true) (ha : Nat.ble args.length 17 = true) (hq : initQ hs args fun σ => codeQ Tryz.prog gpCon bpCon σ (retQ Tryz.prog gpCon Tryz.f86.results.toList K)) : ACall Tryz.prog 86 args hs K :=
  ACall.of_code (Γ := gpCon) Tryz.func86 (by kernel_rfl) (by kernel_rfl) (by kernel_rfl) (by kernel_rfl) (Nat.eq_of_beq_eq_true hp) ha hq
/-- netsegment/prefix.Covers -/
noncomputable def gpCov : Ctx := { N := 20, np := 0, own := fun _ => false, plan := fun _ => none, hints := fun _ => [], cut := fun _ => false }
noncomputable def bpCov : Code := match Tryz.f74.body with | some c => c | none => .skip
theorem ofpCov {args : List AV} {hs : List Vm.Obj} {K : AV → List Vm.Obj → Prop} (hp : Nat.beq gpCov.np hs.length = true) (ha : Nat.ble args.length 20 = true) (hq : initQ hs args fun σ => codeQ Tryz.prog gpCov bpCov σ (retQ Tryz.prog gpCov Tryz.f74.results.toList K)) : ACall Tryz.prog 74 args hs K :=
  ACall.of_code (Γ := gpCov) Tryz.func74 (by kernel_rfl) (by kernel_rfl) (by kernel_rfl) (by kernel_rfl) (Nat.eq_of_beq_eq_true hp) ha hq
/-- netsegment/topology.overlap -/
noncomputable def gtOvl : Ctx := { N := 13, np := 0, own := fun _ => false, plan := fun _ => none, hints := fun _ => [], cut := fun _ => false }
noncomputable def btOvl : Code := match Tryz.f47.body with | some c => c | none => .skip
theorem oftOvl {args : List AV} {hs : List Vm.Obj} {K : AV → List Vm.Obj → Prop} (hp : Nat.beq gtOvl.np hs.length = true) (ha : Nat.ble args.length 13 = true) (hq : initQ hs args fun σ => codeQ Tryz.prog gtOvl btOvl σ (retQ Tryz.prog gtOvl Tryz.f47.results.toList K)) : ACall Tryz.prog 47 args hs K :=
  ACall.of_code (Γ := gtOvl) Tryz.func47 (by kernel_rfl) (by kernel_rfl) (by kernel_rfl) (by kernel_rfl) (Nat.eq_of_beq_eq_true hp) ha hq
/-- netsegment/nsgref1.size -/
noncomputable def grSize : Ctx := { N := 7, np := 0, own := fun _ => false, plan := fun _ => none, hints := fun _ => [], cut := fun _ => false }
noncomputable def brSize : Code := match Tryz.f65.body with | some c => c | none => .skip
theorem ofrSize {args : List AV} {hs : List Vm.Obj} {K : AV → List Vm.Obj → Prop} (hp : Nat.beq grSize.np hs.length = true) (ha : Nat.ble args.length 7 = true) (hq : initQ hs args fun σ => codeQ Tryz.prog grSize brSize σ (retQ Tryz.prog grSize Tryz.f65.results.toList K)) : ACall Tryz.prog 65 args hs K :=
  ACall.of_code (Γ := grSize) Tryz.func65 (by kernel_rfl) (by kernel_rfl) (by kernel_rfl) (by kernel_rfl) (Nat.eq_of_beq_eq_true hp) ha hq
/-- netsegment/nsgref1.Valid -/
noncomputable def grVal : Ctx := { N := 21, np := 0, own := fun _ => false, plan := fun i => match Nat.beq i 1 with | true => some (lin [(0, true), (1, true), (2, true), (3, true), (4, true), (5, true), (6, true), (7, true), (8, true), (9, true), (10, true), (11, true), (12, true), (13, true), (14, false), (15, true), (16, true), (17, true), (18, true)]) | false => none, hints := fun _ => [], cut := fun _ => false }
noncomputable def brVal : Code := match Tryz.f61.body with | some c => c | none => .skip
theorem ofrVal {args : List AV} {hs : List Vm.Obj} {K : AV → List Vm.Obj → Prop} (hp : Nat.beq grVal.np hs.length = true) (ha : Nat.ble args.length 21 = true) (hq : initQ hs args fun σ => codeQ Tryz.prog grVal brVal σ (retQ Tryz.prog grVal Tryz.f61.results.toList K)) : ACall Tryz.prog 61 args hs K :=
  ACall.of_code (Γ := grVal) Tryz.func61 (by kernel_rfl) (by kernel_rfl) (by kernel_rfl) (by kernel_rfl) (Nat.eq_of_beq_eq_true hp) ha hq
/-- netsegment/nsgref1.Of -/
noncomputable def grOf : Ctx := { N := 20, np := 0, own := fun _ => false, plan := fun i => match Nat.beq i 3 with | true => some (lin [(0, true), (1, true), (2, true), (3, true), (4, true), (5, true), (6, true), (7, false), (8, true), (9, true), (10, true), (11, true), (12, false), (13, true)]) | false => none, hints := fun _ => [], cut := fun _ => false }
noncomputable def brOf : Code := match Tryz.f68.body with | some c => c | none => .skip
theorem ofrOf {args : List AV} {hs : List Vm.Obj} {K : AV → List Vm.Obj → Prop} (hp : Nat.beq grOf.np hs.length = true) (ha : Nat.ble args.length 20 = true) (hq : initQ hs args fun σ => codeQ Tryz.prog grOf brOf σ (retQ Tryz.prog grOf Tryz.f68.results.toList K)) : ACall Tryz.prog 68 args hs K :=
  ACall.of_code (Γ := grOf) Tryz.func68 (by kernel_rfl) (by kernel_rfl) (by kernel_rfl) (by kernel_rfl) (Nat.eq_of_beq_eq_true hp) ha hq
/-- netsegment/nsgref1.Contains -/
noncomputable def grCon : Ctx := { N := 25, np := 0, own := fun _ => false, plan := fun _ => none, hints := fun _ => [], cut := fun _ => false }
noncomputable def brCon : Code := match Tryz.f99.body with | some c => c | none => .skip
theorem ofrCon {args : List AV} {hs : List Vm.Obj} {K : AV → List Vm.Obj → Prop} (hp : Nat.beq grCon.np hs.length = true) (ha : Nat.ble args.length 25 = true) (hq : initQ hs args fun σ => codeQ Tryz.prog grCon brCon σ (retQ Tryz.prog grCon Tryz.f99.results.toList K)) : ACall Tryz.prog 99 args hs K :=
  ACall.of_code (Γ := grCon) Tryz.func99 (by kernel_rfl) (by kernel_rfl) (by kernel_rfl) (by kernel_rfl) (Nat.eq_of_beq_eq_true hp) ha hq
/-- netsegment/nsgref1.Covers -/
noncomputable def grCov : Ctx := { N := 25, np := 0, own := fun _ => false, plan := fun _ => none, hints := fun _ => [], cut := fun _ => false }
noncomputable def brCov : Code := match Tryz.f91.body with | some c => c | none => .skip
theorem ofrCov {args : List AV} {hs : List Vm.Obj} {K : AV → List Vm.Obj → Prop} (hp : Nat.beq grCov.np hs.length = true) (ha : Nat.ble args.length 25 = true) (hq : initQ hs args fun σ => codeQ Tryz.prog grCov brCov σ (retQ Tryz.prog grCov Tryz.f91.results.toList K)) : ACall Tryz.prog 91 args hs K :=
  ACall.of_code (Γ := grCov) Tryz.func91 (by kernel_rfl) (by kernel_rfl) (by kernel_rfl) (by kernel_rfl) (Nat.eq_of_beq_eq_true hp) ha hq
/-- netsegment/nsgref1.Meet -/
noncomputable def grMeet : Ctx := { N := 13, np := 0, own := fun _ => false, plan := fun _ => none, hints := fun _ => [], cut := fun _ => false }
noncomputable def brMeet : Code := match Tryz.f82.body with | some c => c | none => .skip
theorem ofrMeet {args : List AV} {hs : List Vm.Obj} {K : AV → List Vm.Obj → Prop} (hp : Nat.beq grMeet.np hs.length = true) (ha : Nat.ble args.length 13 = true) (hq : initQ hs args fun σ => codeQ Tryz.prog grMeet brMeet σ (retQ Tryz.prog grMeet Tryz.f82.results.toList K)) : ACall Tryz.prog 82 args hs K :=
  ACall.of_code (Γ := grMeet) Tryz.func82 (by kernel_rfl) (by kernel_rfl) (by kernel_rfl) (by kernel_rfl) (Nat.eq_of_beq_eq_true hp) ha hq

end Go.Proofs.YtgcplfplbcpemaaGreat

set_option linter.unusedVariables false
set_option linter.unusedSimpArgs false
set_option maxRecDepth 20000
namespace Go.Proofs.YtgcplfplbcpemaaGreat
open Go Go.Vm

structure Pf where
  addr : Int
  bits : Int
  a0 : 0 ≤ addr
  a1 : addr ≤ 4294967295
deriving DecidableEq

noncomputable abbrev encP (p : Pf) : AV := .agg [.v (.int .u32 p.addr), .v (.int .i64 p.bits)]
/-- how many addresses -/
def pz (b : Int) : Int := ((2 ^ (32 - b).toNat : Nat) : Int)

theorem pz_pos (b : Int) : 0 < pz b := by
  have := Nat.two_pow_pos (32 - b).toNat
  unfold pz; omega
theorem pz_le (b : Int) (h0 : 0 ≤ b) : pz b ≤ 4294967296 := by
  have := Nat.pow_le_pow_right (show 2 > 0 by decide) (show (32 - b).toNat ≤ 32 by omega)
  unfold pz; omega
theorem mask_wrap (n : Int) (h0 : 0 ≤ n) (h1 : n ≤ 32) : IntKind.u32.wrap (4294967295 * 2 ^ min (32 - n).toNat IntKind.u32.bits) = 4294967296 - pz n := by
  have h : ∀ k : Fin 33, IntKind.u32.wrap (4294967295 * 2 ^ min k.val IntKind.u32.bits) = 4294967296 - ((2 ^ k.val : Nat) : Int) := by decide
  exact h ⟨(32 - n).toNat, by omega⟩
theorem size_wrap (n : Int) (h0 : 0 ≤ n) (h1 : n ≤ 32) : IntKind.u64.wrap (1 * 2 ^ min (32 - n).toNat IntKind.u64.bits) = pz n := by
  have h : ∀ k : Fin 33, IntKind.u64.wrap (1 * 2 ^ min k.val IntKind.u64.bits) = ((2 ^ k.val : Nat) : Int) := by decide
  exact h ⟨(32 - n).toNat, by omega⟩
theorem wr_is {k : IntKind} {e r : Int} {K : Int → Prop} (h : k.wrap e = r) (hk : K r) : Wr k e K := Wr.intro h hk

/-- prefix.mask -/
theorem cpMask (n : Int) (h0 : 0 ≤ n) (h1 : n ≤ 32) {K : AV → List Vm.Obj → Prop} (hK : K (.v (.int .u32 (4294967296 - pz n))) []) : ACall Tryz.prog 75 [.v (.int .i64 n)] [] K := by
  refine ofpMask rfl rfl ?_
  iterate 6 (all_goals ((conv => whnf); first | ((with_reducible refine sl_full ?ha ?_); (case ha => exact gA)) | ((with_reducible refine Ob.intro ?ha ?_); (case ha => exact gC)) | ((with_reducible refine br_lt ?_)) | ((with_reducible refine br_lf ?_)) | ((with_reducible refine br_pos ?ha ?_); (case ha => exact gB)) | ((with_reducible refine br_neg ?ha ?_); (case ha => exact gB)) | ((with_reducible refine br_t ?ha ?_); (case ha => with_reducible assumption)) | ((with_reducible refine br_f ?ha ?_); (case ha => with_reducible assumption)) | ((with_reducible refine br_dec (fun h => ?_) (fun h => ?_))) | ((with_reducible refine br_not ?_)) | ((with_reducible refine br_b (fun h => ?_) (fun h => ?_))) | ((with_reducible refine wr_i64 rfl ?ha ?hb ?_); (case ha => exact gB); (case hb => exact gB)) | ((with_reducible refine wr_u64 rfl ?ha ?hb ?_); (case ha => exact gB); (case hb => exact gB)) | ((with_reducible refine wr_u32 rfl ?ha ?hb ?_); (case ha => exact gB); (case hb => exact gB)) | ((with_reducible refine And.intro ?_ ?_)) | ((with_reducible refine True.intro)) | ((with_reducible refine Stp.go ?_)) | skip))
  refine wr_is (mask_wrap n h0 h1) ?_
  iterate 2 (all_goals ((conv => whnf); first | ((with_reducible refine sl_full ?ha ?_); (case ha => exact gA)) | ((with_reducible refine Ob.intro ?ha ?_); (case ha => exact gC)) | ((with_reducible refine br_lt ?_)) | ((with_reducible refine br_lf ?_)) | ((with_reducible refine br_pos ?ha ?_); (case ha => exact gB)) | ((with_reducible refine br_neg ?ha ?_); (case ha => exact gB)) | ((with_reducible refine br_t ?ha ?_); (case ha => with_reducible assumption)) | ((with_reducible refine br_f ?ha ?_); (case ha => with_reducible assumption)) | ((with_reducible refine br_dec (fun h => ?_) (fun h => ?_))) | ((with_reducible refine br_not ?_)) | ((with_reducible refine br_b (fun h => ?_) (fun h => ?_))) | ((with_reducible refine wr_i64 rfl ?ha ?hb ?_); (case ha => exact gB); (case hb => exact gB)) | ((with_reducible refine wr_u64 rfl ?ha ?hb ?_); (case ha => exact gB); (case hb => exact gB)) | ((with_reducible refine wr_u32 rfl ?ha ?hb ?_); (case ha => exact gB); (case hb => exact gB)) | ((with_reducible refine And.intro ?_ ?_)) | ((with_reducible refine True.intro)) | ((with_reducible refine Stp.go ?_)) | skip))
  exact hK
/-- nsgref1.size -/
theorem crSize (n : Int) (h0 : 0 ≤ n) (h1 : n ≤ 32) {K : AV → List Vm.Obj → Prop} (hK : K (.v (.int .u64 (pz n))) []) : ACall Tryz.prog 65 [.v (.int .i64 n)] [] K := by
  refine ofrSize rfl rfl ?_
  iterate 6 (all_goals ((conv => whnf); first | ((with_reducible refine sl_full ?ha ?_); (case ha => exact gA)) | ((with_reducible refine Ob.intro ?ha ?_); (case ha => exact gC)) | ((with_reducible refine br_lt ?_)) | ((with_reducible refine br_lf ?_)) | ((with_reducible refine br_pos ?ha ?_); (case ha => exact gB)) | ((with_reducible refine br_neg ?ha ?_); (case ha => exact gB)) | ((with_reducible refine br_t ?ha ?_); (case ha => with_reducible assumption)) | ((with_reducible refine br_f ?ha ?_); (case ha => with_reducible assumption)) | ((with_reducible refine br_dec (fun h => ?_) (fun h => ?_))) | ((with_reducible refine br_not ?_)) | ((with_reducible refine br_b (fun h => ?_) (fun h => ?_))) | ((with_reducible refine wr_i64 rfl ?ha ?hb ?_); (case ha => exact gB); (case hb => exact gB)) | ((with_reducible refine wr_u64 rfl ?ha ?hb ?_); (case ha => exact gB); (case hb => exact gB)) | ((with_reducible refine wr_u32 rfl ?ha ?hb ?_); (case ha => exact gB); (case hb => exact gB)) | ((with_reducible refine And.intro ?_ ?_)) | ((with_reducible refine True.intro)) | ((with_reducible refine Stp.go ?_)) | skip))
  refine wr_is (size_wrap n h0 h1) ?_
  iterate 2 (all_goals ((conv => whnf); first | ((with_reducible refine sl_full ?ha ?_); (case ha => exact gA)) | ((with_reducible refine Ob.intro ?ha ?_); (case ha => exact gC)) | ((with_reducible refine br_lt ?_)) | ((with_reducible refine br_lf ?_)) | ((with_reducible refine br_pos ?ha ?_); (case ha => exact gB)) | ((with_reducible refine br_neg ?ha ?_); (case ha => exact gB)) | ((with_reducible refine br_t ?ha ?_); (case ha => with_reducible assumption)) | ((with_reducible refine br_f ?ha ?_); (case ha => with_reducible assumption)) | ((with_reducible refine br_dec (fun h => ?_) (fun h => ?_))) | ((with_reducible refine br_not ?_)) | ((with_reducible refine br_b (fun h => ?_) (fun h => ?_))) | ((with_reducible refine wr_i64 rfl ?ha ?hb ?_); (case ha => exact gB); (case hb => exact gB)) | ((with_reducible refine wr_u64 rfl ?ha ?hb ?_); (case ha => exact gB); (case hb => exact gB)) | ((with_reducible refine wr_u32 rfl ?ha ?hb ?_); (case ha => exact gB); (case hb => exact gB)) | ((with_reducible refine And.intro ?_ ?_)) | ((with_reducible refine True.intro)) | ((with_reducible refine Stp.go ?_)) | skip))
  exact hK

def Pf.okP (p : Pf) : Prop := 0 ≤ p.bits ∧ p.bits ≤ 32 ∧ p.addr % pz p.bits = 0
instance (p : Pf) : Decidable p.okP := by unfold Pf.okP; infer_instance
theorem pz_ne (b : Int) : pz b ≠ 0 := Int.ne_of_gt (pz_pos b)
theorem okP_hi {p : Pf} (h : p.okP) : p.addr + pz p.bits - 1 ≤ 4294967295 := by
  have := (bits_orLow p.a0 p.a1 (k := (32 - p.bits).toNat) (by obtain ⟨h1, h2, h3⟩ := h; omega) h.2.2).2
  unfold pz; omega
/-- nsgref1.Valid -/
theorem crVal (p : Pf) {K : AV → List Vm.Obj → Prop} (hK : K (.sb (decide p.okP)) []) : ACall Tryz.prog 61 [encP p] [] K := by
  have b0 := p.a0; have b1 := p.a1
  refine ACall.bool (ofrVal rfl rfl ?_)
  iterate 24 (all_goals ((conv => whnf); first | (with_reducible refine crSize _ (by omega) (by omega) ?_) | (with_reducible refine Ob.intro (pz_ne _) ?_) | (with_reducible refine wr_u64 (Int.tmod_eq_emod_of_nonneg b0) (Int.emod_nonneg _ (pz_ne _)) (Int.le_trans (Int.le_of_lt (Int.emod_lt_of_pos _ (pz_pos _))) (Int.le_trans (pz_le _ (by omega)) (by omega))) ?_) | ((with_reducible refine sl_full ?ha ?_); (case ha => exact gA)) | ((with_reducible refine Ob.intro ?ha ?_); (case ha => exact gC)) | ((with_reducible refine br_lt ?_)) | ((with_reducible refine br_lf ?_)) | ((with_reducible refine br_pos ?ha ?_); (case ha => exact gB)) | ((with_reducible refine br_neg ?ha ?_); (case ha => exact gB)) | ((with_reducible refine br_t ?ha ?_); (case ha => with_reducible assumption)) | ((with_reducible refine br_f ?ha ?_); (case ha => with_reducible assumption)) | ((with_reducible refine br_dec (fun h => ?_) (fun h => ?_))) | ((with_reducible refine br_not ?_)) | ((with_reducible refine br_b (fun h => ?_) (fun h => ?_))) | ((with_reducible refine wr_i64 rfl ?ha ?hb ?_); (case ha => exact gB); (case hb => exact gB)) | ((with_reducible refine wr_u64 rfl ?ha ?hb ?_); (case ha => exact gB); (case hb => exact gB)) | ((with_reducible refine wr_u32 rfl ?ha ?hb ?_); (case ha => exact gB); (case hb => exact gB)) | ((with_reducible refine And.intro ?_ ?_)) | ((with_reducible refine True.intro)) | ((with_reducible refine Stp.go ?_)) | skip))
  · exact fin_s hK (decide_eq_decide.2 (by rw [Int.tmod_eq_emod_of_nonneg b0]; simp only [Pf.okP]; omega))
  · exact fin_f hK (decide_eq_false (by simp only [Pf.okP]; omega))
  · exact fin_f hK (decide_eq_false (by simp only [Pf.okP]; omega))
/-- prefix.Valid -/
theorem cpVal (p : Pf) {K : AV → List Vm.Obj → Prop} (hK : K (.sb (decide p.okP)) []) : ACall Tryz.prog 48 [encP p] [] K := by
  have b0 := p.a0; have b1 := p.a1
  refine ACall.bool (ofpVal rfl rfl ?_)
  iterate 20 (all_goals ((conv => whnf); first | (with_reducible refine cpMask _ (by omega) (by omega) ?_) | ((with_reducible refine sl_full ?ha ?_); (case ha => exact gA)) | ((with_reducible refine Ob.intro ?ha ?_); (case ha => exact gC)) | ((with_reducible refine br_lt ?_)) | ((with_reducible refine br_lf ?_)) | ((with_reducible refine br_pos ?ha ?_); (case ha => exact gB)) | ((with_reducible refine br_neg ?ha ?_); (case ha => exact gB)) | ((with_reducible refine br_t ?ha ?_); (case ha => with_reducible assumption)) | ((with_reducible refine br_f ?ha ?_); (case ha => with_reducible assumption)) | ((with_reducible refine br_dec (fun h => ?_) (fun h => ?_))) | ((with_reducible refine br_not ?_)) | ((with_reducible refine br_b (fun h => ?_) (fun h => ?_))) | ((with_reducible refine wr_i64 rfl ?ha ?hb ?_); (case ha => exact gB); (case hb => exact gB)) | ((with_reducible refine wr_u64 rfl ?ha ?hb ?_); (case ha => exact gB); (case hb => exact gB)) | ((with_reducible refine wr_u32 rfl ?ha ?hb ?_); (case ha => exact gB); (case hb => exact gB)) | ((with_reducible refine And.intro ?_ ?_)) | ((with_reducible refine True.intro)) | ((with_reducible refine Stp.go ?_)) | skip))
  · refine fin_s hK (decide_eq_decide.2 ?_)
    rw [pz, bits_andNot b0 b1 (by omega), Pf.okP, pz]
    omega
  · exact fin_f hK (decide_eq_false (by simp only [Pf.okP]; omega))
  · exact fin_f hK (decide_eq_false (by simp only [Pf.okP]; omega))

/-- the range of a prefix -/
def Pf.rg (p : Pf) : Rg := if h : p.okP then ⟨p.addr, p.addr + pz p.bits - 1, p.a0, p.a1, by have := p.a0; have := pz_pos p.bits; omega, okP_hi h⟩ else ⟨0, 0, by omega, by omega, by omega, by omega⟩
theorem rg_lo {p : Pf} (h : p.okP) : p.rg.lo = p.addr := by simp [Pf.rg, h]
theorem rg_hi {p : Pf} (h : p.okP) : p.rg.hi = p.addr + pz p.bits - 1 := by simp [Pf.rg, h]
theorem enc_rg {p : Pf} (h : p.okP) : encR p.rg = .agg [.v (.int .u32 p.addr), .v (.int .u32 (p.addr + pz p.bits - 1))] := by rw [encR, rg_lo h, rg_hi h]
theorem enc_rg0 {p : Pf} (h : ¬ p.okP) : encR p.rg = .agg [.v (.int .u32 0), .v (.int .u32 0)] := by simp [encR, Pf.rg, h]
def Pf.has (p : Pf) (v : Int) : Bool := decide p.okP && (decide (p.rg.lo ≤ v) && decide (v ≤ p.rg.hi))

theorem Weak.boolIs {b c : Bool} (h : c = b) : Weak (.v (.bool b)) (.sb c) := h ▸ Weak.bool
/-- prefix.Of -/
theorem cpOf (p : Pf) {K : AV → List Vm.Obj → Prop} (hK : K (.tup [encR p.rg, .sb (decide p.okP)]) []) : ACall Tryz.prog 53 [encP p] [] K := by
  have b0 := p.a0; have b1 := p.a1
  refine ACall.weak (ofpOf rfl rfl ?_)
  rcases Decidable.em p.okP with hp | hp
  · obtain ⟨h0, h1, h2⟩ := id hp
    iterate 24 (all_goals ((conv => whnf); first | (with_reducible refine cpVal _ ?_) | (with_reducible refine cpMask _ h0 h1 ?_) | ((with_reducible refine sl_full ?ha ?_); (case ha => exact gA)) | ((with_reducible refine Ob.intro ?ha ?_); (case ha => exact gC)) | ((with_reducible refine br_lt ?_)) | ((with_reducible refine br_lf ?_)) | ((with_reducible refine br_pos ?ha ?_); (case ha => exact gB)) | ((with_reducible refine br_neg ?ha ?_); (case ha => exact gB)) | ((with_reducible refine br_t ?ha ?_); (case ha => with_reducible assumption)) | ((with_reducible refine br_f ?ha ?_); (case ha => with_reducible assumption)) | ((with_reducible refine br_dec (fun h => ?_) (fun h => ?_))) | ((with_reducible refine br_not ?_)) | ((with_reducible refine br_b (fun h => ?_) (fun h => ?_))) | ((with_reducible refine wr_i64 rfl ?ha ?hb ?_); (case ha => exact gB); (case hb => exact gB)) | ((with_reducible refine wr_u64 rfl ?ha ?hb ?_); (case ha => exact gB); (case hb => exact gB)) | ((with_reducible refine wr_u32 rfl ?ha ?hb ?_); (case ha => exact gB); (case hb => exact gB)) | ((with_reducible refine And.intro ?_ ?_)) | ((with_reducible refine True.intro)) | ((with_reducible refine Stp.go ?_)) | skip))
    refine ⟨_, Weak.tup2 .refl (Weak.boolIs (decide_eq_true hp)), ?_⟩
    have e : bBits BinOp.or IntKind.u32 p.addr (bBits BinOp.xor IntKind.u32 (if IntKind.u32.signed = true then -1 else IntKind.u32.max) (4294967296 - pz p.bits)) = p.addr + pz p.bits - 1 := by
      have h3 := (bits_orLow b0 b1 (k := (32 - p.bits).toNat) (by omega) h2).1
      have h4 := bits_xorMask (k := (32 - p.bits).toNat) (by omega)
      rw [pz, show (if IntKind.u32.signed = true then -1 else IntKind.u32.max) = 4294967295 from rfl, h4, h3]
      omega
    rw [e, ← enc_rg hp]
    exact hK
  · iterate 24 (all_goals ((conv => whnf); first | (with_reducible refine cpVal _ ?_) | ((with_reducible refine sl_full ?ha ?_); (case ha => exact gA)) | ((with_reducible refine Ob.intro ?ha ?_); (case ha => exact gC)) | ((with_reducible refine br_lt ?_)) | ((with_reducible refine br_lf ?_)) | ((with_reducible refine br_pos ?ha ?_); (case ha => exact gB)) | ((with_reducible refine br_neg ?ha ?_); (case ha => exact gB)) | ((with_reducible refine br_t ?ha ?_); (case ha => with_reducible assumption)) | ((with_reducible refine br_f ?ha ?_); (case ha => with_reducible assumption)) | ((with_reducible refine br_dec (fun h => ?_) (fun h => ?_))) | ((with_reducible refine br_not ?_)) | ((with_reducible refine br_b (fun h => ?_) (fun h => ?_))) | ((with_reducible refine wr_i64 rfl ?ha ?hb ?_); (case ha => exact gB); (case hb => exact gB)) | ((with_reducible refine wr_u64 rfl ?ha ?hb ?_); (case ha => exact gB); (case hb => exact gB)) | ((with_reducible refine wr_u32 rfl ?ha ?hb ?_); (case ha => exact gB); (case hb => exact gB)) | ((with_reducible refine And.intro ?_ ?_)) | ((with_reducible refine True.intro)) | ((with_reducible refine Stp.go ?_)) | skip))
    refine ⟨_, Weak.tup2 .refl (Weak.boolIs (decide_eq_false hp)), ?_⟩
    rw [← enc_rg0 hp]
    exact hK
/-- nsgref1.Of -/
theorem crOf (p : Pf) {K : AV → List Vm.Obj → Prop} (hK : K (.tup [encR p.rg, .sb (decide p.okP)]) []) : ACall Tryz.prog 68 [encP p] [] K := by
  have b0 := p.a0; have b1 := p.a1
  refine ACall.weak (ofrOf rfl rfl ?_)
  rcases Decidable.em p.okP with hp | hp
  · obtain ⟨h0, h1, h2⟩ := id hp
    have h3 := okP_hi hp
    have h4 := pz_pos p.bits
    iterate 24 (all_goals ((conv => whnf); first | (with_reducible refine crVal _ ?_) | (with_reducible refine crSize _ h0 h1 ?_) | ((with_reducible refine sl_full ?ha ?_); (case ha => exact gA)) | ((with_reducible refine Ob.intro ?ha ?_); (case ha => exact gC)) | ((with_reducible refine br_lt ?_)) | ((with_reducible refine br_lf ?_)) | ((with_reducible refine br_pos ?ha ?_); (case ha => exact gB)) | ((with_reducible refine br_neg ?ha ?_); (case ha => exact gB)) | ((with_reducible refine br_t ?ha ?_); (case ha => with_reducible assumption)) | ((with_reducible refine br_f ?ha ?_); (case ha => with_reducible assumption)) | ((with_reducible refine br_dec (fun h => ?_) (fun h => ?_))) | ((with_reducible refine br_not ?_)) | ((with_reducible refine br_b (fun h => ?_) (fun h => ?_))) | ((with_reducible refine wr_i64 rfl ?ha ?hb ?_); (case ha => exact gB); (case hb => exact gB)) | ((with_reducible refine wr_u64 rfl ?ha ?hb ?_); (case ha => exact gB); (case hb => exact gB)) | ((with_reducible refine wr_u32 rfl ?ha ?hb ?_); (case ha => exact gB); (case hb => exact gB)) | ((with_reducible refine And.intro ?_ ?_)) | ((with_reducible refine True.intro)) | ((with_reducible refine Stp.go ?_)) | skip))
    refine ⟨_, Weak.tup2 .refl (Weak.boolIs (decide_eq_true hp)), ?_⟩
    rw [← enc_rg hp]
    exact hK
  · iterate 24 (all_goals ((conv => whnf); first | (with_reducible refine crVal _ ?_) | ((with_reducible refine sl_full ?ha ?_); (case ha => exact gA)) | ((with_reducible refine Ob.intro ?ha ?_); (case ha => exact gC)) | ((with_reducible refine br_lt ?_)) | ((with_reducible refine br_lf ?_)) | ((with_reducible refine br_pos ?ha ?_); (case ha => exact gB)) | ((with_reducible refine br_neg ?ha ?_); (case ha => exact gB)) | ((with_reducible refine br_t ?ha ?_); (case ha => with_reducible assumption)) | ((with_reducible refine br_f ?ha ?_); (case ha => with_reducible assumption)) | ((with_reducible refine br_dec (fun h => ?_) (fun h => ?_))) | ((with_reducible refine br_not ?_)) | ((with_reducible refine br_b (fun h => ?_) (fun h => ?_))) | ((with_reducible refine wr_i64 rfl ?ha ?hb ?_); (case ha => exact gB); (case hb => exact gB)) | ((with_reducible refine wr_u64 rfl ?ha ?hb ?_); (case ha => exact gB); (case hb => exact gB)) | ((with_reducible refine wr_u32 rfl ?ha ?hb ?_); (case ha => exact gB); (case hb => exact gB)) | ((with_reducible refine And.intro ?_ ?_)) | ((with_reducible refine True.intro)) | ((with_reducible refine Stp.go ?_)) | skip))
    refine ⟨_, Weak.tup2 .refl (Weak.boolIs (decide_eq_false hp)), ?_⟩
    rw [← enc_rg0 hp]
    exact hK
theorem has_iffP {p : Pf} {v : Int} : p.has v = true ↔ p.okP ∧ p.addr ≤ v ∧ v ≤ p.addr + pz p.bits - 1 := by
  simp only [Pf.has, Bool.and_eq_true, decide_eq_true_eq]
  constructor
  · rintro ⟨h, h1, h2⟩; rw [rg_lo h] at h1; rw [rg_hi h] at h2; exact ⟨h, h1, h2⟩
  · rintro ⟨h, h1, h2⟩; rw [rg_lo h, rg_hi h]; exact ⟨h, h1, h2⟩
/-- nsgref1.Contains -/
theorem crCon (p : Pf) (v : Int) {K : AV → List Vm.Obj → Prop} (hK : K (.sb (p.has v)) []) : ACall Tryz.prog 99 [encP p, .v (.int .u32 v)] [] K := by
  refine ACall.bool (ofrCon rfl rfl ?_)
  iterate 24 (all_goals ((conv => whnf); first | (with_reducible refine crOf _ ?_) | ((with_reducible refine sl_full ?ha ?_); (case ha => exact gA)) | ((with_reducible refine Ob.intro ?ha ?_); (case ha => exact gC)) | ((with_reducible refine br_lt ?_)) | ((with_reducible refine br_lf ?_)) | ((with_reducible refine br_pos ?ha ?_); (case ha => exact gB)) | ((with_reducible refine br_neg ?ha ?_); (case ha => exact gB)) | ((with_reducible refine br_t ?ha ?_); (case ha => with_reducible assumption)) | ((with_reducible refine br_f ?ha ?_); (case ha => with_reducible assumption)) | ((with_reducible refine br_dec (fun h => ?_) (fun h => ?_))) | ((with_reducible refine br_not ?_)) | ((with_reducible refine br_b (fun h => ?_) (fun h => ?_))) | ((with_reducible refine wr_i64 rfl ?ha ?hb ?_); (case ha => exact gB); (case hb => exact gB)) | ((with_reducible refine wr_u64 rfl ?ha ?hb ?_); (case ha => exact gB); (case hb => exact gB)) | ((with_reducible refine wr_u32 rfl ?ha ?hb ?_); (case ha => exact gB); (case hb => exact gB)) | ((with_reducible refine And.intro ?_ ?_)) | ((with_reducible refine True.intro)) | ((with_reducible refine Stp.go ?_)) | skip))
  · exact fin_s hK (by simp_all [Pf.has])
  · exact fin_f hK (by simp_all [Pf.has]; omega)
  · exact fin_f hK (by simp_all [Pf.has])
theorem block_iff {a v s : Int} (hs : 0 < s) (ha : a % s = 0) : v - v % s = a ↔ a ≤ v ∧ v ≤ a + s - 1 := by
  have h1 := Int.emod_nonneg v (Int.ne_of_gt hs)
  have h2 := Int.emod_lt_of_pos v hs
  constructor
  · intro h; omega
  · intro ⟨h3, h4⟩
    have e : v % s = (v - a) % s := by
      have : v = (v - a) + a := by omega
      rw [Int.sub_emod, ha, Int.sub_zero, Int.emod_emod]
    rw [Int.emod_eq_of_lt (show 0 ≤ v - a by omega) (show v - a < s by omega)] at e
    omega
/-- prefix.Contains -/
theorem cpCon (p : Pf) (v : Int) (v0 : 0 ≤ v) (v1 : v ≤ 4294967295) {K : AV → List Vm.Obj → Prop} (hK : K (.sb (p.has v)) []) : ACall Tryz.prog 86 [encP p, .v (.int .u32 v)] [] K := by
  refine ACall.bool (ofpCon rfl rfl ?_)
  iterate 24 (all_goals ((conv => whnf); first | (with_reducible refine cpVal _ ?_) | (with_reducible refine cpMask _ (by simp only [Pf.okP] at h; omega) (by simp only [Pf.okP] at h; omega) ?_) | ((with_reducible refine sl_full ?ha ?_); (case ha => exact gA)) | ((with_reducible refine Ob.intro ?ha ?_); (case ha => exact gC)) | ((with_reducible refine br_lt ?_)) | ((with_reducible refine br_lf ?_)) | ((with_reducible refine br_pos ?ha ?_); (case ha => exact gB)) | ((with_reducible refine br_neg ?ha ?_); (case ha => exact gB)) | ((with_reducible refine br_t ?ha ?_); (case ha => with_reducible assumption)) | ((with_reducible refine br_f ?ha ?_); (case ha => with_reducible assumption)) | ((with_reducible refine br_dec (fun h => ?_) (fun h => ?_))) | ((with_reducible refine br_not ?_)) | ((with_reducible refine br_b (fun h => ?_) (fun h => ?_))) | ((with_reducible refine wr_i64 rfl ?ha ?hb ?_); (case ha => exact gB); (case hb => exact gB)) | ((with_reducible refine wr_u64 rfl ?ha ?hb ?_); (case ha => exact gB); (case hb => exact gB)) | ((with_reducible refine wr_u32 rfl ?ha ?hb ?_); (case ha => exact gB); (case hb => exact gB)) | ((with_reducible refine And.intro ?_ ?_)) | ((with_reducible refine True.intro)) | ((with_reducible refine Stp.go ?_)) | skip))
  · refine fin_s hK ?_
    have h0 : 0 ≤ p.bits ∧ p.bits ≤ 32 ∧ p.addr % pz p.bits = 0 := h
    rw [pz, bits_and v0 v1 (by omega), ← pz, Bool.eq_iff_iff, has_iffP, decide_eq_true_eq, block_iff (pz_pos _) h0.2.2]
    exact ⟨fun h => h.2, fun h1 => ⟨h, h1⟩⟩
  · exact fin_f hK (by simp_all [Pf.has])
/-- p holds all of q -/
def Pf.cov (p q : Pf) : Bool := decide q.okP && (p.has q.rg.lo && p.has q.rg.hi)
/-- nsgref1.Covers -/
theorem crCov (p q : Pf) {K : AV → List Vm.Obj → Prop} (hK : K (.sb (p.cov q)) []) : ACall Tryz.prog 91 [encP p, encP q] [] K := by
  refine ACall.bool (ofrCov rfl rfl ?_)
  iterate 24 (all_goals ((conv => whnf); first | (with_reducible refine crOf _ ?_) | (with_reducible refine crCon _ _ ?_) | ((with_reducible refine sl_full ?ha ?_); (case ha => exact gA)) | ((with_reducible refine Ob.intro ?ha ?_); (case ha => exact gC)) | ((with_reducible refine br_lt ?_)) | ((with_reducible refine br_lf ?_)) | ((with_reducible refine br_pos ?ha ?_); (case ha => exact gB)) | ((with_reducible refine br_neg ?ha ?_); (case ha => exact gB)) | ((with_reducible refine br_t ?ha ?_); (case ha => with_reducible assumption)) | ((with_reducible refine br_f ?ha ?_); (case ha => with_reducible assumption)) | ((with_reducible refine br_dec (fun h => ?_) (fun h => ?_))) | ((with_reducible refine br_not ?_)) | ((with_reducible refine br_b (fun h => ?_) (fun h => ?_))) | ((with_reducible refine wr_i64 rfl ?ha ?hb ?_); (case ha => exact gB); (case hb => exact gB)) | ((with_reducible refine wr_u64 rfl ?ha ?hb ?_); (case ha => exact gB); (case hb => exact gB)) | ((with_reducible refine wr_u32 rfl ?ha ?hb ?_); (case ha => exact gB); (case hb => exact gB)) | ((with_reducible refine And.intro ?_ ?_)) | ((with_reducible refine True.intro)) | ((with_reducible refine Stp.go ?_)) | skip))
  · exact fin_s hK (by simp_all [Pf.cov])
  · exact fin_f hK (by simp_all [Pf.cov])
  · exact fin_f hK (by simp_all [Pf.cov])
theorem pz_mul {a b : Int} (h : a ≤ b) (hb : b ≤ 32) : ∃ k : Nat, 0 < k ∧ pz a = pz b * k := by
  refine ⟨2 ^ (b - a).toNat, Nat.two_pow_pos _, ?_⟩
  unfold pz
  rw [show (32 - a).toNat = (32 - b).toNat + (b - a).toNat by omega, Nat.pow_add]
  push_cast; rfl
theorem pz_lt {a b : Int} (h : a < b) (hb : b ≤ 32) : pz b < pz a := by
  have : 2 ^ (32 - b).toNat < 2 ^ (32 - a).toNat := Nat.pow_lt_pow_right (by decide) (by omega)
  unfold pz; omega
/-- a block that starts within a larger one lies within it -/
theorem block_in {a b s : Int} {k : Nat} (hs : 0 < s) (ha : a % (s * k) = 0) (hb : b % s = 0) (h1 : a ≤ b) (h2 : b ≤ a + s * k - 1) : b + s - 1 ≤ a + s * k - 1 := by
  have e1 : s ∣ a := Int.dvd_trans (Int.dvd_mul_right s k) (Int.dvd_of_emod_eq_zero ha)
  have e2 : s ∣ b := Int.dvd_of_emod_eq_zero hb
  have e3 : s ∣ (a + s * k - b) := Int.dvd_sub (Int.dvd_add e1 (Int.dvd_mul_right s k)) e2
  have := Int.le_of_dvd (by omega) e3
  omega
theorem cov_iff {p q : Pf} : p.cov q = true ↔ q.okP ∧ p.bits ≤ q.bits ∧ p.has q.addr = true := by
  simp only [Pf.cov, Bool.and_eq_true, decide_eq_true_eq]
  constructor
  · rintro ⟨h, h1, h2⟩
    rw [rg_lo h] at h1; rw [rg_hi h] at h2
    refine ⟨h, ?_, h1⟩
    have g1 := has_iffP.1 h1; have g2 := has_iffP.1 h2
    rcases (by omega : q.bits < p.bits ∨ p.bits ≤ q.bits) with hb | hb
    · have := pz_lt hb g1.1.2.1
      omega
    · exact hb
  · rintro ⟨h, h1, h2⟩
    refine ⟨h, by rw [rg_lo h]; exact h2, ?_⟩
    rw [rg_hi h]
    obtain ⟨g0, g1, g2⟩ := has_iffP.1 h2
    have hq := pz_pos q.bits
    obtain ⟨k, hk, e⟩ := pz_mul h1 h.2.1
    have ha := g0.2.2
    rw [e] at ha g2
    have := block_in hq ha h.2.2 g1 g2
    exact has_iffP.2 ⟨g0, by omega, by rw [e]; omega⟩
/-- prefix.Covers -/
theorem cpCov (p q : Pf) {K : AV → List Vm.Obj → Prop} (hK : K (.sb (p.cov q)) []) : ACall Tryz.prog 74 [encP p, encP q] [] K := by
  have a0 := q.a0; have a1 := q.a1
  refine ACall.bool (ofpCov rfl rfl ?_)
  iterate 24 (all_goals ((conv => whnf); first | (with_reducible refine cpVal _ ?_) | (with_reducible refine cpCon _ _ a0 a1 ?_) | ((with_reducible refine sl_full ?ha ?_); (case ha => exact gA)) | ((with_reducible refine Ob.intro ?ha ?_); (case ha => exact gC)) | ((with_reducible refine br_lt ?_)) | ((with_reducible refine br_lf ?_)) | ((with_reducible refine br_pos ?ha ?_); (case ha => exact gB)) | ((with_reducible refine br_neg ?ha ?_); (case ha => exact gB)) | ((with_reducible refine br_t ?ha ?_); (case ha => with_reducible assumption)) | ((with_reducible refine br_f ?ha ?_); (case ha => with_reducible assumption)) | ((with_reducible refine br_dec (fun h => ?_) (fun h => ?_))) | ((with_reducible refine br_not ?_)) | ((with_reducible refine br_b (fun h => ?_) (fun h => ?_))) | ((with_reducible refine wr_i64 rfl ?ha ?hb ?_); (case ha => exact gB); (case hb => exact gB)) | ((with_reducible refine wr_u64 rfl ?ha ?hb ?_); (case ha => exact gB); (case hb => exact gB)) | ((with_reducible refine wr_u32 rfl ?ha ?hb ?_); (case ha => exact gB); (case hb => exact gB)) | ((with_reducible refine And.intro ?_ ?_)) | ((with_reducible refine True.intro)) | ((with_reducible refine Stp.go ?_)) | skip))
  · exact fin_s hK (by rw [Bool.eq_iff_iff, cov_iff]; simp_all)
  · exact fin_f hK (by rw [Bool.eq_false_iff, ne_eq, cov_iff]; exact fun hh => by have := hh.2.1; omega)
  · exact fin_f hK (by rw [Bool.eq_false_iff, ne_eq, cov_iff]; simp_all)
/-- they have a common address -/
def Pf.meet (p q : Pf) : Bool := p.cov q || q.cov p
/-- nsgref1.Meet -/
theorem crMeet (p q : Pf) {K : AV → List Vm.Obj → Prop} (hK : K (.sb (p.meet q)) []) : ACall Tryz.prog 82 [encP p, encP q] [] K := by
  refine ACall.bool (ofrMeet rfl rfl ?_)
  iterate 24 (all_goals ((conv => whnf); first | (with_reducible refine crCov _ _ ?_) | ((with_reducible refine sl_full ?ha ?_); (case ha => exact gA)) | ((with_reducible refine Ob.intro ?ha ?_); (case ha => exact gC)) | ((with_reducible refine br_lt ?_)) | ((with_reducible refine br_lf ?_)) | ((with_reducible refine br_pos ?ha ?_); (case ha => exact gB)) | ((with_reducible refine br_neg ?ha ?_); (case ha => exact gB)) | ((with_reducible refine br_t ?ha ?_); (case ha => with_reducible assumption)) | ((with_reducible refine br_f ?ha ?_); (case ha => with_reducible assumption)) | ((with_reducible refine br_dec (fun h => ?_) (fun h => ?_))) | ((with_reducible refine br_not ?_)) | ((with_reducible refine br_b (fun h => ?_) (fun h => ?_))) | ((with_reducible refine wr_i64 rfl ?ha ?hb ?_); (case ha => exact gB); (case hb => exact gB)) | ((with_reducible refine wr_u64 rfl ?ha ?hb ?_); (case ha => exact gB); (case hb => exact gB)) | ((with_reducible refine wr_u32 rfl ?ha ?hb ?_); (case ha => exact gB); (case hb => exact gB)) | ((with_reducible refine And.intro ?_ ?_)) | ((with_reducible refine True.intro)) | ((with_reducible refine Stp.go ?_)) | skip))
  · exact fin_t hK (by simp_all [Pf.meet])
  · exact fin_s hK (by simp_all [Pf.meet])
/-- topology.overlap -/
theorem ctOvl (p q : Pf) {K : AV → List Vm.Obj → Prop} (hK : K (.sb (p.meet q)) []) : ACall Tryz.prog 47 [encP p, encP q] [] K := by
  refine ACall.bool (oftOvl rfl rfl ?_)
  iterate 24 (all_goals ((conv => whnf); first | (with_reducible refine cpCov _ _ ?_) | ((with_reducible refine sl_full ?ha ?_); (case ha => exact gA)) | ((with_reducible refine Ob.intro ?ha ?_); (case ha => exact gC)) | ((with_reducible refine br_lt ?_)) | ((with_reducible refine br_lf ?_)) | ((with_reducible refine br_pos ?ha ?_); (case ha => exact gB)) | ((with_reducible refine br_neg ?ha ?_); (case ha => exact gB)) | ((with_reducible refine br_t ?ha ?_); (case ha => with_reducible assumption)) | ((with_reducible refine br_f ?ha ?_); (case ha => with_reducible assumption)) | ((with_reducible refine br_dec (fun h => ?_) (fun h => ?_))) | ((with_reducible refine br_not ?_)) | ((with_reducible refine br_b (fun h => ?_) (fun h => ?_))) | ((with_reducible refine wr_i64 rfl ?ha ?hb ?_); (case ha => exact gB); (case hb => exact gB)) | ((with_reducible refine wr_u64 rfl ?ha ?hb ?_); (case ha => exact gB); (case hb => exact gB)) | ((with_reducible refine wr_u32 rfl ?ha ?hb ?_); (case ha => exact gB); (case hb => exact gB)) | ((with_reducible refine And.intro ?_ ?_)) | ((with_reducible refine True.intro)) | ((with_reducible refine Stp.go ?_)) | skip))
  · exact fin_t hK (by simp_all [Pf.meet])
  · exact fin_s hK (by simp_all [Pf.meet])
end Go.Proofs.YtgcplfplbcpemaaGreat

set_option linter.unusedVariables false
set_option maxRecDepth 20000
namespace Go.Proofs.YtgcplfplbcpemaaGreat
open Go Go.Vm

/-- netsegment/source.ValidName -/
noncomputable def gsName : Ctx := { N := 71, np := 0, own := fun _ => false, plan := fun _ => none, hints := fun _ => [], cut := fun _ => false }
noncomputable def bsName : Code := match Tryz.f69.body with | some c => c | none => .skip
theorem ofsName {args : List AV} {hs : List Vm.Obj} {K : AV → List Vm.Obj → Prop} (hp : Nat.beq gsName.np hs.length = true) (ha : Nat.ble args.length 71 = true) (hq : initQ hs args fun σ => codeQ Tryz.prog gsName bsName σ (retQ Tryz.prog gsName Tryz.f69.results.toList K)) : ACall Tryz.prog 69 args hs K :=
  ACall.of_code (Γ := gsName) Tryz.func69 (by kernel_rfl) (by kernel_rfl) (by kernel_rfl) (by kernel_rfl) (Nat.eq_of_beq_eq_true hp) ha hq
/-- netsegment/nsgref10.ValidName -/
noncomputable def grName : Ctx := { N := 65, np := 0, own := fun _ => false, plan := fun _ => none, hints := fun _ => [], cut := fun _ => false }
noncomputable def brName : Code := match Tryz.f80.body with | some c => c | none => .skip
theorem ofrName {args : List AV} {hs : List Vm.Obj} {K : AV → List Vm.Obj → Prop} (hp : Nat.beq grName.np hs.length = true) (ha : Nat.ble args.length 65 = true) (hq : initQ hs args fun σ => codeQ Tryz.prog grName brName σ (retQ Tryz.prog grName Tryz.f80.results.toList K)) : ACall Tryz.prog 80 args hs K :=
  ACall.of_code (Γ := grName) Tryz.func80 (by kernel_rfl) (by kernel_rfl) (by kernel_rfl) (by kernel_rfl) (Nat.eq_of_beq_eq_true hp) ha hq
/-- netsegment/topology.validDevice -/
noncomputable def gtDevOk : Ctx := { N := 26, np := 0, own := fun _ => false, plan := fun _ => none, hints := fun _ => [], cut := fun _ => false }
noncomputable def btDevOk : Code := match Tryz.f43.body with | some c => c | none => .skip
theorem oftDevOk {args : List AV} {hs : List Vm.Obj} {K : AV → List Vm.Obj → Prop} (hp : Nat.beq gtDevOk.np hs.length = true) (ha : Nat.ble args.length 26 = true) (hq : initQ hs args fun σ => codeQ Tryz.prog gtDevOk btDevOk σ (retQ Tryz.prog gtDevOk Tryz.f43.results.toList K)) : ACall Tryz.prog 43 args hs K :=
  ACall.of_code (Γ := gtDevOk) Tryz.func43 (by kernel_rfl) (by kernel_rfl) (by kernel_rfl) (by kernel_rfl) (Nat.eq_of_beq_eq_true hp) ha hq
/-- netsegment/topology.Device -/
noncomputable def gtDev : Ctx := { N := 9, np := 0, own := fun _ => false, plan := fun _ => none, hints := fun _ => [], cut := fun _ => false }
noncomputable def btDev : Code := match Tryz.f44.body with | some c => c | none => .skip
theorem oftDev {args : List AV} {hs : List Vm.Obj} {K : AV → List Vm.Obj → Prop} (hp : Nat.beq gtDev.np hs.length = true) (ha : Nat.ble args.length 9 = true) (hq : initQ hs args fun σ => codeQ Tryz.prog gtDev btDev σ (retQ Tryz.prog gtDev Tryz.f44.results.toList K)) : ACall Tryz.prog 44 args hs K :=
  ACall.of_code (Γ := gtDev) Tryz.func44 (by kernel_rfl) (by kernel_rfl) (by kernel_rfl) (by kernel_rfl) (Nat.eq_of_beq_eq_true hp) ha hq
/-- slices.IndexFunc[[]netsegment/api.Device,netsegment/api.Device] -/
noncomputable def gixDev : Ctx := { N := 19, np := 0, own := fun _ => false, plan := fun _ => none, hints := fun _ => [], cut := fun _ => false }
noncomputable def bixDev : Code := match Tryz.f70.body with | some c => c | none => .skip
theorem ofixDev {args : List AV} {hs : List Vm.Obj} {K : AV → List Vm.Obj → Prop} (hp : Nat.beq gixDev.np hs.length = true) (ha : Nat.ble args.length 19 = true) (hq : initQ hs args fun σ => codeQ Tryz.prog gixDev bixDev σ (retQ Tryz.prog gixDev Tryz.f70.results.toList K)) : ACall Tryz.prog 70 args hs K :=
  ACall.of_code (Γ := gixDev) Tryz.func70 (by kernel_rfl) (by kernel_rfl) (by kernel_rfl) (by kernel_rfl) (Nat.eq_of_beq_eq_true hp) ha hq
/-- netsegment/topology.Device$1 -/
noncomputable def gtDev1 : Ctx := { N := 8, np := 0, own := fun _ => false, plan := fun _ => none, hints := fun _ => [], cut := fun _ => false }
noncomputable def btDev1 : Code := match Tryz.f71.body with | some c => c | none => .skip
theorem oftDev1 {args : List AV} {hs : List Vm.Obj} {K : AV → List Vm.Obj → Prop} (hp : Nat.beq gtDev1.np hs.length = true) (ha : Nat.ble args.length 8 = true) (hq : initQ hs args fun σ => codeQ Tryz.prog gtDev1 btDev1 σ (retQ Tryz.prog gtDev1 Tryz.f71.results.toList K)) : ACall Tryz.prog 71 args hs K :=
  ACall.of_code (Γ := gtDev1) Tryz.func71 (by kernel_rfl) (by kernel_rfl) (by kernel_rfl) (by kernel_rfl) (Nat.eq_of_beq_eq_true hp) ha hq
/-- netsegment/topology.validEdge -/
noncomputable def gtEdgeOk : Ctx := { N := 52, np := 0, own := fun _ => false, plan := fun _ => none, hints := fun _ => [], cut := fun _ => false }
noncomputable def btEdgeOk : Code := match Tryz.f45.body with | some c => c | none => .skip
theorem oftEdgeOk {args : List AV} {hs : List Vm.Obj} {K : AV → List Vm.Obj → Prop} (hp : Nat.beq gtEdgeOk.np hs.length = true) (ha : Nat.ble args.length 52 = true) (hq : initQ hs args fun σ => codeQ Tryz.prog gtEdgeOk btEdgeOk σ (retQ Tryz.prog gtEdgeOk Tryz.f45.results.toList K)) : ACall Tryz.prog 45 args hs K :=
  ACall.of_code (Γ := gtEdgeOk) Tryz.func45 (by kernel_rfl) (by kernel_rfl) (by kernel_rfl) (by kernel_rfl) (Nat.eq_of_beq_eq_true hp) ha hq
/-- netsegment/topology.Edge -/
noncomputable def gtEdge : Ctx := { N := 9, np := 0, own := fun _ => false, plan := fun _ => none, hints := fun _ => [], cut := fun _ => false }
noncomputable def btEdge : Code := match Tryz.f46.body with | some c => c | none => .skip
theorem oftEdge {args : List AV} {hs : List Vm.Obj} {K : AV → List Vm.Obj → Prop} (hp : Nat.beq gtEdge.np hs.length = true) (ha : Nat.ble args.length 9 = true) (hq : initQ hs args fun σ => codeQ Tryz.prog gtEdge btEdge σ (retQ Tryz.prog gtEdge Tryz.f46.results.toList K)) : ACall Tryz.prog 46 args hs K :=
  ACall.of_code (Γ := gtEdge) Tryz.func46 (by kernel_rfl) (by kernel_rfl) (by kernel_rfl) (by kernel_rfl) (Nat.eq_of_beq_eq_true hp) ha hq
/-- slices.IndexFunc[[]netsegment/api.Edge,netsegment/api.Edge] -/
noncomputable def gixEdge : Ctx := { N := 19, np := 0, own := fun _ => false, plan := fun _ => none, hints := fun _ => [], cut := fun _ => false }
noncomputable def bixEdge : Code := match Tryz.f72.body with | some c => c | none => .skip
theorem ofixEdge {args : List AV} {hs : List Vm.Obj} {K : AV → List Vm.Obj → Prop} (hp : Nat.beq gixEdge.np hs.length = true) (ha : Nat.ble args.length 19 = true) (hq : initQ hs args fun σ => codeQ Tryz.prog gixEdge bixEdge σ (retQ Tryz.prog gixEdge Tryz.f72.results.toList K)) : ACall Tryz.prog 72 args hs K :=
  ACall.of_code (Γ := gixEdge) Tryz.func72 (by kernel_rfl) (by kernel_rfl) (by kernel_rfl) (by kernel_rfl) (Nat.eq_of_beq_eq_true hp) ha hq
/-- netsegment/topology.Edge$1 -/
noncomputable def gtEdge1 : Ctx := { N := 8, np := 0, own := fun _ => false, plan := fun _ => none, hints := fun _ => [], cut := fun _ => false }
noncomputable def btEdge1 : Code := match Tryz.f73.body with | some c => c | none => .skip
theorem oftEdge1 {args : List AV} {hs : List Vm.Obj} {K : AV → List Vm.Obj → Prop} (hp : Nat.beq gtEdge1.np hs.length = true) (ha : Nat.ble args.length 8 = true) (hq : initQ hs args fun σ => codeQ Tryz.prog gtEdge1 btEdge1 σ (retQ Tryz.prog gtEdge1 Tryz.f73.results.toList K)) : ACall Tryz.prog 73 args hs K :=
  ACall.of_code (Γ := gtEdge1) Tryz.func73 (by kernel_rfl) (by kernel_rfl) (by kernel_rfl) (by kernel_rfl) (Nat.eq_of_beq_eq_true hp) ha hq
/-- slices.IndexFunc[[]netsegment/api.Prefix,netsegment/api.Prefix] -/
noncomputable def gixPf : Ctx := { N := 19, np := 0, own := fun _ => false, plan := fun _ => none, hints := fun _ => [], cut := fun _ => false }
noncomputable def bixPf : Code := match Tryz.f76.body with | some c => c | none => .skip
theorem ofixPf {args : List AV} {hs : List Vm.Obj} {K : AV → List Vm.Obj → Prop} (hp : Nat.beq gixPf.np hs.length = true) (ha : Nat.ble args.length 19 = true) (hq : initQ hs args fun σ => codeQ Tryz.prog gixPf bixPf σ (retQ Tryz.prog gixPf Tryz.f76.results.toList K)) : ACall Tryz.prog 76 args hs K :=
  ACall.of_code (Γ := gixPf) Tryz.func76 (by kernel_rfl) (by kernel_rfl) (by kernel_rfl) (by kernel_rfl) (Nat.eq_of_beq_eq_true hp) ha hq
/-- slices.ContainsFunc[[]netsegment/api.Prefix,netsegment/api.Prefix] -/
noncomputable def ganyPf : Ctx := { N := 9, np := 0, own := fun _ => false, plan := fun _ => none, hints := fun _ => [], cut := fun _ => false }
noncomputable def banyPf : Code := match Tryz.f49.body with | some c => c | none => .skip
theorem ofanyPf {args : List AV} {hs : List Vm.Obj} {K : AV → List Vm.Obj → Prop} (hp : Nat.beq ganyPf.np hs.length = true) (ha : Nat.ble args.length 9 = true) (hq : initQ hs args fun σ => codeQ Tryz.prog ganyPf banyPf σ (retQ Tryz.prog ganyPf Tryz.f49.results.toList K)) : ACall Tryz.prog 49 args hs K :=
  ACall.of_code (Γ := ganyPf) Tryz.func49 (by kernel_rfl) (by kernel_rfl) (by kernel_rfl) (by kernel_rfl) (Nat.eq_of_beq_eq_true hp) ha hq
/-- netsegment/topology.Valid$1 -/
noncomputable def gtVal1 : Ctx := { N := 7, np := 0, own := fun _ => false, plan := fun _ => none, hints := fun _ => [], cut := fun _ => false }
noncomputable def btVal1 : Code := match Tryz.f50.body with | some c => c | none => .skip
theorem oftVal1 {args : List AV} {hs : List Vm.Obj} {K : AV → List Vm.Obj → Prop} (hp : Nat.beq gtVal1.np hs.length = true) (ha : Nat.ble args.length 7 = true) (hq : initQ hs args fun σ => codeQ Tryz.prog gtVal1 btVal1 σ (retQ Tryz.prog gtVal1 Tryz.f50.results.toList K)) : ACall Tryz.prog 50 args hs K :=
  ACall.of_code (Γ := gtVal1) Tryz.func50 (by kernel_rfl) (by kernel_rfl) (by kernel_rfl) (by kernel_rfl) (Nat.eq_of_beq_eq_true hp) ha hq
/-- netsegment/topology.Valid -/
noncomputable def gtVal : Ctx := { N := 173, np := 0, own := fun _ => false, plan := fun _ => none, hints := fun _ => [], cut := fun _ => false }
noncomputable def btVal : Code := match Tryz.f25.body with | some c => c | none => .skip
theorem oftVal {args : List AV} {hs : List Vm.Obj} {K : AV → List Vm.Obj → Prop} (hp : Nat.beq gtVal.np hs.length = true) (ha : Nat.ble args.length 173 = true) (hq : initQ hs args fun σ => codeQ Tryz.prog gtVal btVal σ (retQ Tryz.prog gtVal Tryz.f25.results.toList K)) : ACall Tryz.prog 25 args hs K :=
  ACall.of_code (Γ := gtVal) Tryz.func25 (by kernel_rfl) (by kernel_rfl) (by kernel_rfl) (by kernel_rfl) (Nat.eq_of_beq_eq_true hp) ha hq
/-- netsegment/nsgref11.validDevices -/
noncomputable def guDevs : Ctx := { N := 70, np := 0, own := fun _ => false, plan := fun _ => none, hints := fun _ => [], cut := fun _ => false }
noncomputable def buDevs : Code := match Tryz.f56.body with | some c => c | none => .skip
theorem ofuDevs {args : List AV} {hs : List Vm.Obj} {K : AV → List Vm.Obj → Prop} (hp : Nat.beq guDevs.np hs.length = true) (ha : Nat.ble args.length 70 = true) (hq : initQ hs args fun σ => codeQ Tryz.prog guDevs buDevs σ (retQ Tryz.prog guDevs Tryz.f56.results.toList K)) : ACall Tryz.prog 56 args hs K :=
  ACall.of_code (Γ := guDevs) Tryz.func56 (by kernel_rfl) (by kernel_rfl) (by kernel_rfl) (by kernel_rfl) (Nat.eq_of_beq_eq_true hp) ha hq
/-- netsegment/nsgref11.Device -/
noncomputable def guDev : Ctx := { N := 22, np := 0, own := fun _ => false, plan := fun _ => none, hints := fun _ => [], cut := fun _ => false }
noncomputable def buDev : Code := match Tryz.f81.body with | some c => c | none => .skip
theorem ofuDev {args : List AV} {hs : List Vm.Obj} {K : AV → List Vm.Obj → Prop} (hp : Nat.beq guDev.np hs.length = true) (ha : Nat.ble args.length 22 = true) (hq : initQ hs args fun σ => codeQ Tryz.prog guDev buDev σ (retQ Tryz.prog guDev Tryz.f81.results.toList K)) : ACall Tryz.prog 81 args hs K :=
  ACall.of_code (Γ := guDev) Tryz.func81 (by kernel_rfl) (by kernel_rfl) (by kernel_rfl) (by kernel_rfl) (Nat.eq_of_beq_eq_true hp) ha hq
/-- netsegment/nsgref11.validEdge -/
noncomputable def guEdgeOk : Ctx := { N := 46, np := 0, own := fun _ => false, plan := fun _ => none, hints := fun _ => [], cut := fun _ => false }
noncomputable def buEdgeOk : Code := match Tryz.f57.body with | some c => c | none => .skip
theorem ofuEdgeOk {args : List AV} {hs : List Vm.Obj} {K : AV → List Vm.Obj → Prop} (hp : Nat.beq guEdgeOk.np hs.length = true) (ha : Nat.ble args.length 46 = true) (hq : initQ hs args fun σ => codeQ Tryz.prog guEdgeOk buEdgeOk σ (retQ Tryz.prog guEdgeOk Tryz.f57.results.toList K)) : ACall Tryz.prog 57 args hs K :=
  ACall.of_code (Γ := guEdgeOk) Tryz.func57 (by kernel_rfl) (by kernel_rfl) (by kernel_rfl) (by kernel_rfl) (Nat.eq_of_beq_eq_true hp) ha hq
/-- netsegment/nsgref11.Edge -/
noncomputable def guEdge : Ctx := { N := 22, np := 0, own := fun _ => false, plan := fun _ => none, hints := fun _ => [], cut := fun _ => false }
noncomputable def buEdge : Code := match Tryz.f58.body with | some c => c | none => .skip
theorem ofuEdge {args : List AV} {hs : List Vm.Obj} {K : AV → List Vm.Obj → Prop} (hp : Nat.beq guEdge.np hs.length = true) (ha : Nat.ble args.length 22 = true) (hq : initQ hs args fun σ => codeQ Tryz.prog guEdge buEdge σ (retQ Tryz.prog guEdge Tryz.f58.results.toList K)) : ACall Tryz.prog 58 args hs K :=
  ACall.of_code (Γ := guEdge) Tryz.func58 (by kernel_rfl) (by kernel_rfl) (by kernel_rfl) (by kernel_rfl) (Nat.eq_of_beq_eq_true hp) ha hq
/-- netsegment/nsgref11.Fixed -/
noncomputable def guFixed : Ctx := { N := 29, np := 0, own := fun _ => false, plan := fun _ => none, hints := fun i => match Nat.beq i 2 with | true => [.virt 3 2] | false => [], cut := fun _ => false }
noncomputable def buFixed : Code := match Tryz.f59.body with | some c => c | none => .skip
theorem ofuFixed {args : List AV} {hs : List Vm.Obj} {K : AV → List Vm.Obj → Prop} (hp : Nat.beq guFixed.np hs.length = true) (ha : Nat.ble args.length 29 = true) (hq : initQ hs args fun σ => codeQ Tryz.prog guFixed buFixed σ (retQ Tryz.prog guFixed Tryz.f59.results.toList K)) : ACall Tryz.prog 59 args hs K :=
  ACall.of_code (Γ := guFixed) Tryz.func59 (by kernel_rfl) (by kernel_rfl) (by kernel_rfl) (by kernel_rfl) (Nat.eq_of_beq_eq_true hp) ha hq
/-- netsegment/nsgref11.meets -/
noncomputable def guMeets : Ctx := { N := 18, np := 0, own := fun _ => false, plan := fun i => match Nat.beq i 4 with | true => some (lin [(0, true), (1, true), (2, true), (3, true), (4, true), (5, false)]) | false => none, hints := fun _ => [], cut := fun _ => false }
noncomputable def buMeets : Code := match Tryz.f60.body with | some c => c | none => .skip
theorem ofuMeets {args : List AV} {hs : List Vm.Obj} {K : AV → List Vm.Obj → Prop} (hp : Nat.beq guMeets.np hs.length = true) (ha : Nat.ble args.length 18 = true) (hq : initQ hs args fun σ => codeQ Tryz.prog guMeets buMeets σ (retQ Tryz.prog guMeets Tryz.f60.results.toList K)) : ACall Tryz.prog 60 args hs K :=
  ACall.of_code (Γ := guMeets) Tryz.func60 (by kernel_rfl) (by kernel_rfl) (by kernel_rfl) (by kernel_rfl) (Nat.eq_of_beq_eq_true hp) ha hq
/-- netsegment/nsgref11.Valid -/
noncomputable def guVal : Ctx := { N := 152, np := 0, own := fun _ => false, plan := fun i => match Nat.beq i 12 with | true => some (lin [(0, true), (1, true), (2, true), (3, true), (4, true), (5, true), (6, true), (7, true), (8, false), (9, true), (10, true), (11, true), (12, true), (13, true), (14, true), (15, true), (16, true), (17, true), (19, true), (18, false), (20, true), (21, true)]) | false => match Nat.beq i 18 with | true => some (lin [(0, true), (1, true), (2, true), (3, true), (4, true), (5, true), (6, true), (7, false)]) | false => match Nat.beq i 23 with | true => some (lin [(0, true), (1, true), (2, true), (3, true), (4, true), (5, false), (6, true), (7, true), (8, true), (9, true), (10, true), (11, true), (12, true), (13, true), (14, true), (15, true), (16, true), (17, false), (18, true)]) | false => none, hints := fun _ => [], cut := fun _ => false }
noncomputable def buVal : Code := match Tryz.f36.body with | some c => c | none => .skip
theorem ofuVal {args : List AV} {hs : List Vm.Obj} {K : AV → List Vm.Obj → Prop} (hp : Nat.beq guVal.np hs.length = true) (ha : Nat.ble args.length 152 = true) (hq : initQ hs args fun σ => codeQ Tryz.prog guVal buVal σ (retQ Tryz.prog guVal Tryz.f36.results.toList K)) : ACall Tryz.prog 36 args hs K :=
  ACall.of_code (Γ := guVal) Tryz.func36 (by kernel_rfl) (by kernel_rfl) (by kernel_rfl) (by kernel_rfl) (Nat.eq_of_beq_eq_true hp) ha hq

end Go.Proofs.YtgcplfplbcpemaaGreat

set_option linter.unusedVariables false
set_option linter.unusedSimpArgs false
set_option maxRecDepth 20000
namespace Go.Proofs.YtgcplfplbcpemaaGreat
open Go Go.Vm

def nmL (c : Int) : Prop := 97 ≤ c ∧ c ≤ 122
def nmC (c : Int) : Prop := (97 ≤ c ∧ c ≤ 122) ∨ (48 ≤ c ∧ c ≤ 57) ∨ c = 45 ∨ c = 95
def nameOk (s : ByteArray) : Prop := (s.toList == (⟨#[]⟩ : ByteArray).toList) = false ∧ (s.size : Int) ≤ 24 ∧ (s.toList == (⟨#[97, 110, 121]⟩ : ByteArray).toList) = false ∧ (∀ b, s[0]? = some b → nmL (b.toNat : Int)) ∧ ∀ (i : Nat) b, s[i]? = some b → nmC (b.toNat : Int)
open Classical in
noncomputable def nameB (s : ByteArray) : Bool := decide (nameOk s)
theorem nameB_true {s : ByteArray} (h : nameOk s) : nameB s = true := by simp [nameB, h]
theorem nameB_false {s : ByteArray} (h : ¬ nameOk s) : nameB s = false := by simp [nameB, h]
theorem nameB_iff {s : ByteArray} : nameB s = true ↔ nameOk s := by simp [nameB]

theorem size_pos {s : ByteArray} (h : (s.toList == (⟨#[]⟩ : ByteArray).toList) = false) : 0 < s.size := by
  rcases Nat.eq_zero_or_pos s.size with h0 | h0
  · exfalso
    have : s = ⟨#[]⟩ := by
      obtain ⟨d⟩ := s
      have : d = #[] := Array.eq_empty_of_size_eq_zero h0
      rw [this]
    rw [this] at h
    simp at h
  · exact h0
theorem ix_ba {s : ByteArray} {j : Nat} {K : UInt8 → Prop} (h : j < s.size) (hk : ∀ b, s[j]? = some b → K b) : ∃ b, s[j]? = some b ∧ K b := ⟨s[j], by simp [h], hk _ (by simp [h])⟩
theorem ix_is {s : ByteArray} {j : Nat} {b : UInt8} {K : UInt8 → Prop} (h : s[j]? = some b) (hk : K b) : ∃ b, s[j]? = some b ∧ K b := ⟨b, h, hk⟩

/-- source.ValidName -/
theorem csName (s : ByteArray) {K : AV → List Vm.Obj → Prop} (hK : K (.sb (nameB s)) []) : ACall Tryz.prog 69 [.v (.string s)] [] K := by
  refine ACall.bool (ofsName rfl rfl ?_)
  iterate 12 (all_goals ((conv => whnf); first | ((with_reducible refine sl_full ?ha ?_); (case ha => exact gA)) | ((with_reducible refine Ob.intro ?ha ?_); (case ha => exact gC)) | ((with_reducible refine br_lt ?_)) | ((with_reducible refine br_lf ?_)) | ((with_reducible refine br_pos ?ha ?_); (case ha => exact gB)) | ((with_reducible refine br_neg ?ha ?_); (case ha => exact gB)) | ((with_reducible refine br_t ?ha ?_); (case ha => with_reducible assumption)) | ((with_reducible refine br_f ?ha ?_); (case ha => with_reducible assumption)) | ((with_reducible refine br_dec (fun h => ?_) (fun h => ?_))) | ((with_reducible refine br_not ?_)) | ((with_reducible refine br_b (fun h => ?_) (fun h => ?_))) | ((with_reducible refine wr_i64 rfl ?ha ?hb ?_); (case ha => exact gB); (case hb => exact gB)) | ((with_reducible refine wr_u64 rfl ?ha ?hb ?_); (case ha => exact gB); (case hb => exact gB)) | ((with_reducible refine wr_u32 rfl ?ha ?hb ?_); (case ha => exact gB); (case hb => exact gB)) | ((with_reducible refine And.intro ?_ ?_)) | ((with_reducible refine True.intro)) | ((with_reducible refine Stp.go ?_)) | skip))
  · exact fin_f hK (nameB_false fun hn => by have := hn.1; simp_all)
  · exact fin_f hK (nameB_false fun hn => by have := hn.2.1; omega)
  · exact fin_f hK (nameB_false fun hn => by have := hn.2.2.1; simp_all)
  rename_i g1 g2; have g3 := h
  have hp := size_pos g1
  refine in_nat (j := 0) hp ?_
  refine ix_ba hp fun c hc => ?_
  iterate 3 (all_goals ((conv => whnf); first | ((with_reducible refine sl_full ?ha ?_); (case ha => exact gA)) | ((with_reducible refine Ob.intro ?ha ?_); (case ha => exact gC)) | ((with_reducible refine br_lt ?_)) | ((with_reducible refine br_lf ?_)) | ((with_reducible refine br_pos ?ha ?_); (case ha => exact gB)) | ((with_reducible refine br_neg ?ha ?_); (case ha => exact gB)) | ((with_reducible refine br_t ?ha ?_); (case ha => with_reducible assumption)) | ((with_reducible refine br_f ?ha ?_); (case ha => with_reducible assumption)) | ((with_reducible refine br_dec (fun h => ?_) (fun h => ?_))) | ((with_reducible refine br_not ?_)) | ((with_reducible refine br_b (fun h => ?_) (fun h => ?_))) | ((with_reducible refine wr_i64 rfl ?ha ?hb ?_); (case ha => exact gB); (case hb => exact gB)) | ((with_reducible refine wr_u64 rfl ?ha ?hb ?_); (case ha => exact gB); (case hb => exact gB)) | ((with_reducible refine wr_u32 rfl ?ha ?hb ?_); (case ha => exact gB); (case hb => exact gB)) | ((with_reducible refine And.intro ?_ ?_)) | ((with_reducible refine True.intro)) | ((with_reducible refine Stp.go ?_)) | skip))
  · exact fin_f hK (nameB_false fun hn => by have := hn.2.2.2.1 c hc; unfold nmL at this; omega)
  refine in_nat (j := 0) hp ?_
  refine ix_is hc ?_
  iterate 3 (all_goals ((conv => whnf); first | ((with_reducible refine sl_full ?ha ?_); (case ha => exact gA)) | ((with_reducible refine Ob.intro ?ha ?_); (case ha => exact gC)) | ((with_reducible refine br_lt ?_)) | ((with_reducible refine br_lf ?_)) | ((with_reducible refine br_pos ?ha ?_); (case ha => exact gB)) | ((with_reducible refine br_neg ?ha ?_); (case ha => exact gB)) | ((with_reducible refine br_t ?ha ?_); (case ha => with_reducible assumption)) | ((with_reducible refine br_f ?ha ?_); (case ha => with_reducible assumption)) | ((with_reducible refine br_dec (fun h => ?_) (fun h => ?_))) | ((with_reducible refine br_not ?_)) | ((with_reducible refine br_b (fun h => ?_) (fun h => ?_))) | ((with_reducible refine wr_i64 rfl ?ha ?hb ?_); (case ha => exact gB); (case hb => exact gB)) | ((with_reducible refine wr_u64 rfl ?ha ?hb ?_); (case ha => exact gB); (case hb => exact gB)) | ((with_reducible refine wr_u32 rfl ?ha ?hb ?_); (case ha => exact gB); (case hb => exact gB)) | ((with_reducible refine And.intro ?_ ?_)) | ((with_reducible refine True.intro)) | ((with_reducible refine Stp.go ?_)) | skip))
  · exact fin_f hK (nameB_false fun hn => by have := hn.2.2.2.1 c hc; unfold nmL at this; omega)
  rename_i g4; have g5 := h
  refine Lp.intro Nat (fun k => ⟨0, [], [(0, .v (.string s)), (3, .v (.int .i64 k))]⟩) (fun k => k ≤ s.size ∧ ∀ (i : Nat) b, i < k → s[i]? = some b → nmC (b.toNat : Int)) (fun k => s.size - k) 0 ?_ ?_ ?_
  · exact ⟨by omega, fun i b hi => by omega⟩
  · exact ⟨[], rfl, ⟨rfl, rfl, trivial⟩, trivial⟩
  · intro k ⟨hk, hinv⟩
    rcases Nat.lt_or_ge k s.size with hkl | hkl
    · obtain ⟨b, hb⟩ : ∃ b, s[k]? = some b := ⟨s[k], by simp [hkl]⟩
      iterate 40 (all_goals ((conv => whnf); first | (with_reducible refine in_nat hkl ?_) | (with_reducible refine ix_is hb ?_) | ((with_reducible refine sl_full ?ha ?_); (case ha => exact gA)) | ((with_reducible refine Ob.intro ?ha ?_); (case ha => exact gC)) | ((with_reducible refine br_lt ?_)) | ((with_reducible refine br_lf ?_)) | ((with_reducible refine br_pos ?ha ?_); (case ha => exact gB)) | ((with_reducible refine br_neg ?ha ?_); (case ha => exact gB)) | ((with_reducible refine br_t ?ha ?_); (case ha => with_reducible assumption)) | ((with_reducible refine br_f ?ha ?_); (case ha => with_reducible assumption)) | ((with_reducible refine br_dec (fun h => ?_) (fun h => ?_))) | ((with_reducible refine br_not ?_)) | ((with_reducible refine br_b (fun h => ?_) (fun h => ?_))) | ((with_reducible refine wr_i64 rfl ?ha ?hb ?_); (case ha => exact gB); (case hb => exact gB)) | ((with_reducible refine wr_u64 rfl ?ha ?hb ?_); (case ha => exact gB); (case hb => exact gB)) | ((with_reducible refine wr_u32 rfl ?ha ?hb ?_); (case ha => exact gB); (case hb => exact gB)) | ((with_reducible refine And.intro ?_ ?_)) | ((with_reducible refine True.intro)) | ((with_reducible refine Stp.go ?_)) | skip))
      all_goals first
        | (refine fin_f hK (nameB_false fun hn => ?_)
           have := hn.2.2.2.2 k b hb
           unfold nmC at this
           omega)
        | (refine ⟨k + 1, ⟨by omega, fun i c hi hc => ?_⟩, by omega, ⟨[], rfl, ⟨rfl, rfl, trivial⟩, trivial⟩⟩
           rcases Nat.lt_or_ge i k with h9 | h9
           · exact hinv i c h9 hc
           · have : i = k := by omega
             subst this
             rw [hb] at hc; cases hc
             unfold nmC
             omega)
    · iterate 12 (all_goals ((conv => whnf); first | ((with_reducible refine sl_full ?ha ?_); (case ha => exact gA)) | ((with_reducible refine Ob.intro ?ha ?_); (case ha => exact gC)) | ((with_reducible refine br_lt ?_)) | ((with_reducible refine br_lf ?_)) | ((with_reducible refine br_pos ?ha ?_); (case ha => exact gB)) | ((with_reducible refine br_neg ?ha ?_); (case ha => exact gB)) | ((with_reducible refine br_t ?ha ?_); (case ha => with_reducible assumption)) | ((with_reducible refine br_f ?ha ?_); (case ha => with_reducible assumption)) | ((with_reducible refine br_dec (fun h => ?_) (fun h => ?_))) | ((with_reducible refine br_not ?_)) | ((with_reducible refine br_b (fun h => ?_) (fun h => ?_))) | ((with_reducible refine wr_i64 rfl ?ha ?hb ?_); (case ha => exact gB); (case hb => exact gB)) | ((with_reducible refine wr_u64 rfl ?ha ?hb ?_); (case ha => exact gB); (case hb => exact gB)) | ((with_reducible refine wr_u32 rfl ?ha ?hb ?_); (case ha => exact gB); (case hb => exact gB)) | ((with_reducible refine And.intro ?_ ?_)) | ((with_reducible refine True.intro)) | ((with_reducible refine Stp.go ?_)) | skip))
      exact fin_t hK (nameB_true ⟨g1, by omega, g3, fun b hb => by rw [hc] at hb; cases hb; unfold nmL; omega, fun i b hb => hinv i b (by
        rcases Nat.lt_or_ge i s.size with h9 | h9
        · omega
        · simp [h9] at hb) hb⟩)
/-- nsgref10.ValidName -/
theorem crName (s : ByteArray) {K : AV → List Vm.Obj → Prop} (hK : K (.sb (nameB s)) []) : ACall Tryz.prog 80 [.v (.string s)] [] K := by
  refine ACall.bool (ofrName rfl rfl ?_)
  iterate 16 (all_goals ((conv => whnf); first | ((with_reducible refine sl_full ?ha ?_); (case ha => exact gA)) | ((with_reducible refine Ob.intro ?ha ?_); (case ha => exact gC)) | ((with_reducible refine br_lt ?_)) | ((with_reducible refine br_lf ?_)) | ((with_reducible refine br_pos ?ha ?_); (case ha => exact gB)) | ((with_reducible refine br_neg ?ha ?_); (case ha => exact gB)) | ((with_reducible refine br_t ?ha ?_); (case ha => with_reducible assumption)) | ((with_reducible refine br_f ?ha ?_); (case ha => with_reducible assumption)) | ((with_reducible refine br_dec (fun h => ?_) (fun h => ?_))) | ((with_reducible refine br_not ?_)) | ((with_reducible refine br_b (fun h => ?_) (fun h => ?_))) | ((with_reducible refine wr_i64 rfl ?ha ?hb ?_); (case ha => exact gB); (case hb => exact gB)) | ((with_reducible refine wr_u64 rfl ?ha ?hb ?_); (case ha => exact gB); (case hb => exact gB)) | ((with_reducible refine wr_u32 rfl ?ha ?hb ?_); (case ha => exact gB); (case hb => exact gB)) | ((with_reducible refine And.intro ?_ ?_)) | ((with_reducible refine True.intro)) | ((with_reducible refine Stp.go ?_)) | skip))
  · exact fin_f hK (nameB_false fun hn => by have := hn.1; simp_all)
  · exact fin_f hK (nameB_false fun hn => by have := hn.2.1; omega)
  · exact fin_f hK (nameB_false fun hn => by have := hn.2.2.1; simp_all)
  rename_i g1 g2; have g3 := h
  refine Lp.intro Nat (fun k => ⟨0, [], [(0, .v (.string s)), (3, .v (.int .i64 k))]⟩) (fun k => k ≤ s.size ∧ ∀ (i : Nat) b, i < k → s[i]? = some b → nmC (b.toNat : Int) ∧ (i = 0 → nmL (b.toNat : Int))) (fun k => s.size - k) 0 ?_ ?_ ?_
  · exact ⟨by omega, fun i b hi => by omega⟩
  · exact ⟨[], rfl, ⟨rfl, rfl, trivial⟩, trivial⟩
  · intro k ⟨hk, hinv⟩
    rcases Nat.lt_or_ge k s.size with hkl | hkl
    · obtain ⟨b, hb⟩ : ∃ b, s[k]? = some b := ⟨s[k], by simp [hkl]⟩
      iterate 50 (all_goals ((conv => whnf); first | (with_reducible refine in_nat hkl ?_) | (with_reducible refine ix_is hb ?_) | ((with_reducible refine sl_full ?ha ?_); (case ha => exact gA)) | ((with_reducible refine Ob.intro ?ha ?_); (case ha => exact gC)) | ((with_reducible refine br_lt ?_)) | ((with_reducible refine br_lf ?_)) | ((with_reducible refine br_pos ?ha ?_); (case ha => exact gB)) | ((with_reducible refine br_neg ?ha ?_); (case ha => exact gB)) | ((with_reducible refine br_t ?ha ?_); (case ha => with_reducible assumption)) | ((with_reducible refine br_f ?ha ?_); (case ha => with_reducible assumption)) | ((with_reducible refine br_dec (fun h => ?_) (fun h => ?_))) | ((with_reducible refine br_not ?_)) | ((with_reducible refine br_b (fun h => ?_) (fun h => ?_))) | ((with_reducible refine wr_i64 rfl ?ha ?hb ?_); (case ha => exact gB); (case hb => exact gB)) | ((with_reducible refine wr_u64 rfl ?ha ?hb ?_); (case ha => exact gB); (case hb => exact gB)) | ((with_reducible refine wr_u32 rfl ?ha ?hb ?_); (case ha => exact gB); (case hb => exact gB)) | ((with_reducible refine And.intro ?_ ?_)) | ((with_reducible refine True.intro)) | ((with_reducible refine Stp.go ?_)) | skip))
      all_goals first
        | (refine fin_f hK (nameB_false fun hn => ?_)
           have h7 := hn.2.2.2.2 k b hb
           have h8 := fun h0 : k = 0 => hn.2.2.2.1 b (h0 ▸ hb)
           unfold nmC at h7
           unfold nmL at h8
           omega)
        | (refine ⟨k + 1, ⟨by omega, fun i c hi hc => ?_⟩, by omega, ⟨[], rfl, ⟨rfl, rfl, trivial⟩, trivial⟩⟩
           rcases Nat.lt_or_ge i k with h9 | h9
           · exact hinv i c h9 hc
           · have : i = k := by omega
             subst this
             rw [hb] at hc; cases hc
             unfold nmC nmL
             omega)
    · iterate 12 (all_goals ((conv => whnf); first | ((with_reducible refine sl_full ?ha ?_); (case ha => exact gA)) | ((with_reducible refine Ob.intro ?ha ?_); (case ha => exact gC)) | ((with_reducible refine br_lt ?_)) | ((with_reducible refine br_lf ?_)) | ((with_reducible refine br_pos ?ha ?_); (case ha => exact gB)) | ((with_reducible refine br_neg ?ha ?_); (case ha => exact gB)) | ((with_reducible refine br_t ?ha ?_); (case ha => with_reducible assumption)) | ((with_reducible refine br_f ?ha ?_); (case ha => with_reducible assumption)) | ((with_reducible refine br_dec (fun h => ?_) (fun h => ?_))) | ((with_reducible refine br_not ?_)) | ((with_reducible refine br_b (fun h => ?_) (fun h => ?_))) | ((with_reducible refine wr_i64 rfl ?ha ?hb ?_); (case ha => exact gB); (case hb => exact gB)) | ((with_reducible refine wr_u64 rfl ?ha ?hb ?_); (case ha => exact gB); (case hb => exact gB)) | ((with_reducible refine wr_u32 rfl ?ha ?hb ?_); (case ha => exact gB); (case hb => exact gB)) | ((with_reducible refine And.intro ?_ ?_)) | ((with_reducible refine True.intro)) | ((with_reducible refine Stp.go ?_)) | skip))
      have hall : ∀ (i : Nat) b, s[i]? = some b → nmC (b.toNat : Int) ∧ (i = 0 → nmL (b.toNat : Int)) := fun i b hb => hinv i b (by
        rcases Nat.lt_or_ge i s.size with h9 | h9
        · omega
        · simp [h9] at hb) hb
      exact fin_t hK (nameB_true ⟨g1, by omega, g3, fun b hb => (hall 0 b hb).2 rfl, fun i b hb => (hall i b hb).1⟩)
end Go.Proofs.YtgcplfplbcpemaaGreat

set_option linter.unusedVariables false
set_option linter.unusedSimpArgs false
set_option maxRecDepth 20000
namespace Go.Proofs.YtgcplfplbcpemaaGreat
open Go Go.Vm

structure Dv where
  name : ByteArray
  cap : Int
  rg : Bool
  vol : Bool
  cls : ByteArray
structure Lk where
  a : Int
  b : Int
  cost : Int
structure Ed where
  name : ByteArray
  dev : Int
  zone : ByteArray
  pf : Pf
  pl : Bool
structure Tp where
  devs : List Dv
  links : List Lk
  edges : List Ed
  pools : List Pf
  tol : Int
noncomputable abbrev encD (d : Dv) : AV := .agg [.v (.string d.name), .v (.int .i64 d.cap), .sb d.rg, .sb d.vol, .v (.string d.cls)]
noncomputable abbrev encL (l : Lk) : AV := .agg [.v (.int .i64 l.a), .v (.int .i64 l.b), .v (.int .i64 l.cost)]
noncomputable abbrev encE (e : Ed) : AV := .agg [.v (.string e.name), .v (.int .i64 e.dev), .v (.string e.zone), .v (.int .u32 e.pf.addr), .v (.int .i64 e.pf.bits), .sb e.pl]
noncomputable abbrev encT (t : Tp) : AV := .agg [.lst (t.devs.map encD), .lst (t.links.map encL), .lst (t.edges.map encE), .lst (t.pools.map encP), .v (.int .i64 t.tol)]

def firstIx {α : Type} (p : α → Bool) (l : List α) : Int := match l.findIdx? p with
  | some i => (i : Int)
  | none => -1
theorem firstIx_at {α : Type} {p : α → Bool} {l : List α} {k : Nat} {x : α} (hx : l[k]? = some x) (hp : p x = true) (hn : ∀ (i : Nat) y, i < k → l[i]? = some y → p y = false) : firstIx p l = k := by
  have hk : k < l.length := (List.getElem?_eq_some_iff.1 hx).1
  have : l.findIdx? p = some k := by
    rw [List.findIdx?_eq_some_iff_getElem]
    refine ⟨hk, ?_, fun j hj => ?_⟩
    · rw [List.getElem?_eq_getElem hk] at hx; rw [Option.some.inj hx]; exact hp
    · have := hn j _ hj (List.getElem?_eq_getElem (by omega))
      simp [this]
  simp [firstIx, this]
theorem firstIx_none {α : Type} {p : α → Bool} {l : List α} (hn : ∀ (i : Nat) y, l[i]? = some y → p y = false) : firstIx p l = -1 := by
  have : l.findIdx? p = none := by
    rw [List.findIdx?_eq_none_iff]
    intro x hx
    obtain ⟨i, hi⟩ := List.mem_iff_getElem?.1 hx
    exact hn i x hi
  simp [firstIx, this]
theorem before_succ {α : Type} {p : α → Bool} {l : List α} {k : Nat} {x : α} (hx : l[k]? = some x) (hp : p x = false) (hn : ∀ (i : Nat) y, i < k → l[i]? = some y → p y = false) : ∀ (i : Nat) y, i < k + 1 → l[i]? = some y → p y = false := by
  intro i y hi hy
  rcases Nat.lt_or_ge i k with h | h
  · exact hn i y h hy
  · have : i = k := by omega
    subst this
    rw [hx] at hy; cases hy; exact hp
theorem before_all {α : Type} {Q : Nat → α → Prop} {l : List α} {k : Nat} (hk : l.length ≤ k) (hn : ∀ (i : Nat) y, i < k → l[i]? = some y → Q i y) : ∀ (i : Nat) y, l[i]? = some y → Q i y := fun i y hy => hn i y (by have := (List.getElem?_eq_some_iff.1 hy).1; omega) hy
theorem all_succ {α : Type} {Q : Nat → α → Prop} {l : List α} {k : Nat} {x : α} (hx : l[k]? = some x) (hp : Q k x) (hn : ∀ (i : Nat) y, i < k → l[i]? = some y → Q i y) : ∀ (i : Nat) y, i < k + 1 → l[i]? = some y → Q i y := by
  intro i y hi hy
  rcases Nat.lt_or_ge i k with h | h
  · exact hn i y h hy
  · have : i = k := by omega
    subst this
    rw [hx] at hy; cases hy; exact hp

/-- slices.IndexFunc -/
theorem cixDev (l : List Dv) (f : FuncId) (cs : List AV) (p : Dv → Bool) (hF : ∀ (x : Dv) (K : AV → List Vm.Obj → Prop), K (.sb (p x)) [] → ACall Tryz.prog f [encD x, .fp cs] [] K) (hl : l.length < 1000000) {K : AV → List Vm.Obj → Prop} (hK : K (.v (.int .i64 (firstIx p l))) []) :
    ACall Tryz.prog 70 [.lst (l.map encD), .fn (.func f) [] [.fp cs]] [] K := by
  refine ofixDev rfl rfl ?_
  iterate 3 (all_goals ((conv => whnf); first | ((with_reducible refine sl_full ?ha ?_); (case ha => exact gA)) | ((with_reducible refine Ob.intro ?ha ?_); (case ha => exact gC)) | ((with_reducible refine br_lt ?_)) | ((with_reducible refine br_lf ?_)) | ((with_reducible refine br_pos ?ha ?_); (case ha => exact gB)) | ((with_reducible refine br_neg ?ha ?_); (case ha => exact gB)) | ((with_reducible refine br_t ?ha ?_); (case ha => with_reducible assumption)) | ((with_reducible refine br_f ?ha ?_); (case ha => with_reducible assumption)) | ((with_reducible refine br_dec (fun h => ?_) (fun h => ?_))) | ((with_reducible refine br_not ?_)) | ((with_reducible refine br_b (fun h => ?_) (fun h => ?_))) | ((with_reducible refine wr_i64 rfl ?ha ?hb ?_); (case ha => exact gB); (case hb => exact gB)) | ((with_reducible refine wr_u64 rfl ?ha ?hb ?_); (case ha => exact gB); (case hb => exact gB)) | ((with_reducible refine wr_u32 rfl ?ha ?hb ?_); (case ha => exact gB); (case hb => exact gB)) | ((with_reducible refine And.intro ?_ ?_)) | ((with_reducible refine True.intro)) | ((with_reducible refine Stp.go ?_)) | skip))
  refine Lp.intro Nat (fun k => ⟨0, [], [(0, .lst (l.map encD)), (1, .fn (.func f) [] [.fp cs]), (7, .v (.int .i64 (l.map encD).length)), (8, .v (.int .i64 k))]⟩) (fun k => k ≤ l.length ∧ ∀ (i : Nat) y, i < k → l[i]? = some y → p y = false) (fun k => l.length - k) 0 ?_ ?_ ?_
  · exact ⟨Nat.zero_le _, fun i y hi => absurd hi (Nat.not_lt_zero _)⟩
  · exact ⟨[], rfl, ⟨rfl, rfl, rfl, rfl, trivial⟩, trivial⟩
  · intro k ⟨hk, hinv⟩
    rcases Nat.lt_or_ge k l.length with hkl | hkl
    · obtain ⟨r, hr⟩ : ∃ r, l[k]? = some r := ⟨_, List.getElem?_eq_getElem hkl⟩
      iterate 12 (all_goals ((conv => whnf); first | (with_reducible refine in_map hkl ?_) | (with_reducible refine ix_map hr ?_) | (with_reducible refine hF r _ ?_) | ((with_reducible refine sl_full ?ha ?_); (case ha => exact gA)) | ((with_reducible refine Ob.intro ?ha ?_); (case ha => exact gC)) | ((with_reducible refine br_lt ?_)) | ((with_reducible refine br_lf ?_)) | ((with_reducible refine br_pos ?ha ?_); (case ha => exact gB)) | ((with_reducible refine br_neg ?ha ?_); (case ha => exact gB)) | ((with_reducible refine br_t ?ha ?_); (case ha => with_reducible assumption)) | ((with_reducible refine br_f ?ha ?_); (case ha => with_reducible assumption)) | ((with_reducible refine br_dec (fun h => ?_) (fun h => ?_))) | ((with_reducible refine br_not ?_)) | ((with_reducible refine br_b (fun h => ?_) (fun h => ?_))) | ((with_reducible refine wr_i64 rfl ?ha ?hb ?_); (case ha => exact gB); (case hb => exact gB)) | ((with_reducible refine wr_u64 rfl ?ha ?hb ?_); (case ha => exact gB); (case hb => exact gB)) | ((with_reducible refine wr_u32 rfl ?ha ?hb ?_); (case ha => exact gB); (case hb => exact gB)) | ((with_reducible refine And.intro ?_ ?_)) | ((with_reducible refine True.intro)) | ((with_reducible refine Stp.go ?_)) | skip))
      · rw [firstIx_at hr h hinv] at hK; exact hK
      · exact ⟨k + 1, ⟨by omega, before_succ hr h hinv⟩, by omega, ⟨[], rfl, ⟨rfl, rfl, rfl, rfl, trivial⟩, trivial⟩⟩
    · iterate 6 (all_goals ((conv => whnf); first | ((with_reducible refine sl_full ?ha ?_); (case ha => exact gA)) | ((with_reducible refine Ob.intro ?ha ?_); (case ha => exact gC)) | ((with_reducible refine br_lt ?_)) | ((with_reducible refine br_lf ?_)) | ((with_reducible refine br_pos ?ha ?_); (case ha => exact gB)) | ((with_reducible refine br_neg ?ha ?_); (case ha => exact gB)) | ((with_reducible refine br_t ?ha ?_); (case ha => with_reducible assumption)) | ((with_reducible refine br_f ?ha ?_); (case ha => with_reducible assumption)) | ((with_reducible refine br_dec (fun h => ?_) (fun h => ?_))) | ((with_reducible refine br_not ?_)) | ((with_reducible refine br_b (fun h => ?_) (fun h => ?_))) | ((with_reducible refine wr_i64 rfl ?ha ?hb ?_); (case ha => exact gB); (case hb => exact gB)) | ((with_reducible refine wr_u64 rfl ?ha ?hb ?_); (case ha => exact gB); (case hb => exact gB)) | ((with_reducible refine wr_u32 rfl ?ha ?hb ?_); (case ha => exact gB); (case hb => exact gB)) | ((with_reducible refine And.intro ?_ ?_)) | ((with_reducible refine True.intro)) | ((with_reducible refine Stp.go ?_)) | skip))
      rw [firstIx_none (before_all hkl hinv)] at hK
      exact hK
/-- slices.IndexFunc -/
theorem cixEdge (l : List Ed) (f : FuncId) (cs : List AV) (p : Ed → Bool) (hF : ∀ (x : Ed) (K : AV → List Vm.Obj → Prop), K (.sb (p x)) [] → ACall Tryz.prog f [encE x, .fp cs] [] K) (hl : l.length < 1000000) {K : AV → List Vm.Obj → Prop} (hK : K (.v (.int .i64 (firstIx p l))) []) :
    ACall Tryz.prog 72 [.lst (l.map encE), .fn (.func f) [] [.fp cs]] [] K := by
  refine ofixEdge rfl rfl ?_
  iterate 3 (all_goals ((conv => whnf); first | ((with_reducible refine sl_full ?ha ?_); (case ha => exact gA)) | ((with_reducible refine Ob.intro ?ha ?_); (case ha => exact gC)) | ((with_reducible refine br_lt ?_)) | ((with_reducible refine br_lf ?_)) | ((with_reducible refine br_pos ?ha ?_); (case ha => exact gB)) | ((with_reducible refine br_neg ?ha ?_); (case ha => exact gB)) | ((with_reducible refine br_t ?ha ?_); (case ha => with_reducible assumption)) | ((with_reducible refine br_f ?ha ?_); (case ha => with_reducible assumption)) | ((with_reducible refine br_dec (fun h => ?_) (fun h => ?_))) | ((with_reducible refine br_not ?_)) | ((with_reducible refine br_b (fun h => ?_) (fun h => ?_))) | ((with_reducible refine wr_i64 rfl ?ha ?hb ?_); (case ha => exact gB); (case hb => exact gB)) | ((with_reducible refine wr_u64 rfl ?ha ?hb ?_); (case ha => exact gB); (case hb => exact gB)) | ((with_reducible refine wr_u32 rfl ?ha ?hb ?_); (case ha => exact gB); (case hb => exact gB)) | ((with_reducible refine And.intro ?_ ?_)) | ((with_reducible refine True.intro)) | ((with_reducible refine Stp.go ?_)) | skip))
  refine Lp.intro Nat (fun k => ⟨0, [], [(0, .lst (l.map encE)), (1, .fn (.func f) [] [.fp cs]), (7, .v (.int .i64 (l.map encE).length)), (8, .v (.int .i64 k))]⟩) (fun k => k ≤ l.length ∧ ∀ (i : Nat) y, i < k → l[i]? = some y → p y = false) (fun k => l.length - k) 0 ?_ ?_ ?_
  · exact ⟨Nat.zero_le _, fun i y hi => absurd hi (Nat.not_lt_zero _)⟩
  · exact ⟨[], rfl, ⟨rfl, rfl, rfl, rfl, trivial⟩, trivial⟩
  · intro k ⟨hk, hinv⟩
    rcases Nat.lt_or_ge k l.length with hkl | hkl
    · obtain ⟨r, hr⟩ : ∃ r, l[k]? = some r := ⟨_, List.getElem?_eq_getElem hkl⟩
      iterate 12 (all_goals ((conv => whnf); first | (with_reducible refine in_map hkl ?_) | (with_reducible refine ix_map hr ?_) | (with_reducible refine hF r _ ?_) | ((with_reducible refine sl_full ?ha ?_); (case ha => exact gA)) | ((with_reducible refine Ob.intro ?ha ?_); (case ha => exact gC)) | ((with_reducible refine br_lt ?_)) | ((with_reducible refine br_lf ?_)) | ((with_reducible refine br_pos ?ha ?_); (case ha => exact gB)) | ((with_reducible refine br_neg ?ha ?_); (case ha => exact gB)) | ((with_reducible refine br_t ?ha ?_); (case ha => with_reducible assumption)) | ((with_reducible refine br_f ?ha ?_); (case ha => with_reducible assumption)) | ((with_reducible refine br_dec (fun h => ?_) (fun h => ?_))) | ((with_reducible refine br_not ?_)) | ((with_reducible refine br_b (fun h => ?_) (fun h => ?_))) | ((with_reducible refine wr_i64 rfl ?ha ?hb ?_); (case ha => exact gB); (case hb => exact gB)) | ((with_reducible refine wr_u64 rfl ?ha ?hb ?_); (case ha => exact gB); (case hb => exact gB)) | ((with_reducible refine wr_u32 rfl ?ha ?hb ?_); (case ha => exact gB); (case hb => exact gB)) | ((with_reducible refine And.intro ?_ ?_)) | ((with_reducible refine True.intro)) | ((with_reducible refine Stp.go ?_)) | skip))
      · rw [firstIx_at hr h hinv] at hK; exact hK
      · exact ⟨k + 1, ⟨by omega, before_succ hr h hinv⟩, by omega, ⟨[], rfl, ⟨rfl, rfl, rfl, rfl, trivial⟩, trivial⟩⟩
    · iterate 6 (all_goals ((conv => whnf); first | ((with_reducible refine sl_full ?ha ?_); (case ha => exact gA)) | ((with_reducible refine Ob.intro ?ha ?_); (case ha => exact gC)) | ((with_reducible refine br_lt ?_)) | ((with_reducible refine br_lf ?_)) | ((with_reducible refine br_pos ?ha ?_); (case ha => exact gB)) | ((with_reducible refine br_neg ?ha ?_); (case ha => exact gB)) | ((with_reducible refine br_t ?ha ?_); (case ha => with_reducible assumption)) | ((with_reducible refine br_f ?ha ?_); (case ha => with_reducible assumption)) | ((with_reducible refine br_dec (fun h => ?_) (fun h => ?_))) | ((with_reducible refine br_not ?_)) | ((with_reducible refine br_b (fun h => ?_) (fun h => ?_))) | ((with_reducible refine wr_i64 rfl ?ha ?hb ?_); (case ha => exact gB); (case hb => exact gB)) | ((with_reducible refine wr_u64 rfl ?ha ?hb ?_); (case ha => exact gB); (case hb => exact gB)) | ((with_reducible refine wr_u32 rfl ?ha ?hb ?_); (case ha => exact gB); (case hb => exact gB)) | ((with_reducible refine And.intro ?_ ?_)) | ((with_reducible refine True.intro)) | ((with_reducible refine Stp.go ?_)) | skip))
      rw [firstIx_none (before_all hkl hinv)] at hK
      exact hK
/-- slices.IndexFunc -/
theorem cixPf (l : List Pf) (f : FuncId) (cs : List AV) (p : Pf → Bool) (hF : ∀ (x : Pf) (K : AV → List Vm.Obj → Prop), K (.sb (p x)) [] → ACall Tryz.prog f [encP x, .fp cs] [] K) (hl : l.length < 1000000) {K : AV → List Vm.Obj → Prop} (hK : K (.v (.int .i64 (firstIx p l))) []) :
    ACall Tryz.prog 76 [.lst (l.map encP), .fn (.func f) [] [.fp cs]] [] K := by
  refine ofixPf rfl rfl ?_
  iterate 3 (all_goals ((conv => whnf); first | ((with_reducible refine sl_full ?ha ?_); (case ha => exact gA)) | ((with_reducible refine Ob.intro ?ha ?_); (case ha => exact gC)) | ((with_reducible refine br_lt ?_)) | ((with_reducible refine br_lf ?_)) | ((with_reducible refine br_pos ?ha ?_); (case ha => exact gB)) | ((with_reducible refine br_neg ?ha ?_); (case ha => exact gB)) | ((with_reducible refine br_t ?ha ?_); (case ha => with_reducible assumption)) | ((with_reducible refine br_f ?ha ?_); (case ha => with_reducible assumption)) | ((with_reducible refine br_dec (fun h => ?_) (fun h => ?_))) | ((with_reducible refine br_not ?_)) | ((with_reducible refine br_b (fun h => ?_) (fun h => ?_))) | ((with_reducible refine wr_i64 rfl ?ha ?hb ?_); (case ha => exact gB); (case hb => exact gB)) | ((with_reducible refine wr_u64 rfl ?ha ?hb ?_); (case ha => exact gB); (case hb => exact gB)) | ((with_reducible refine wr_u32 rfl ?ha ?hb ?_); (case ha => exact gB); (case hb => exact gB)) | ((with_reducible refine And.intro ?_ ?_)) | ((with_reducible refine True.intro)) | ((with_reducible refine Stp.go ?_)) | skip))
  refine Lp.intro Nat (fun k => ⟨0, [], [(0, .lst (l.map encP)), (1, .fn (.func f) [] [.fp cs]), (7, .v (.int .i64 (l.map encP).length)), (8, .v (.int .i64 k))]⟩) (fun k => k ≤ l.length ∧ ∀ (i : Nat) y, i < k → l[i]? = some y → p y = false) (fun k => l.length - k) 0 ?_ ?_ ?_
  · exact ⟨Nat.zero_le _, fun i y hi => absurd hi (Nat.not_lt_zero _)⟩
  · exact ⟨[], rfl, ⟨rfl, rfl, rfl, rfl, trivial⟩, trivial⟩
  · intro k ⟨hk, hinv⟩
    rcases Nat.lt_or_ge k l.length with hkl | hkl
    · obtain ⟨r, hr⟩ : ∃ r, l[k]? = some r := ⟨_, List.getElem?_eq_getElem hkl⟩
      iterate 12 (all_goals ((conv => whnf); first | (with_reducible refine in_map hkl ?_) | (with_reducible refine ix_map hr ?_) | (with_reducible refine hF r _ ?_) | ((with_reducible refine sl_full ?ha ?_); (case ha => exact gA)) | ((with_reducible refine Ob.intro ?ha ?_); (case ha => exact gC)) | ((with_reducible refine br_lt ?_)) | ((with_reducible refine br_lf ?_)) | ((with_reducible refine br_pos ?ha ?_); (case ha => exact gB)) | ((with_reducible refine br_neg ?ha ?_); (case ha => exact gB)) | ((with_reducible refine br_t ?ha ?_); (case ha => with_reducible assumption)) | ((with_reducible refine br_f ?ha ?_); (case ha => with_reducible assumption)) | ((with_reducible refine br_dec (fun h => ?_) (fun h => ?_))) | ((with_reducible refine br_not ?_)) | ((with_reducible refine br_b (fun h => ?_) (fun h => ?_))) | ((with_reducible refine wr_i64 rfl ?ha ?hb ?_); (case ha => exact gB); (case hb => exact gB)) | ((with_reducible refine wr_u64 rfl ?ha ?hb ?_); (case ha => exact gB); (case hb => exact gB)) | ((with_reducible refine wr_u32 rfl ?ha ?hb ?_); (case ha => exact gB); (case hb => exact gB)) | ((with_reducible refine And.intro ?_ ?_)) | ((with_reducible refine True.intro)) | ((with_reducible refine Stp.go ?_)) | skip))
      · rw [firstIx_at hr h hinv] at hK; exact hK
      · exact ⟨k + 1, ⟨by omega, before_succ hr h hinv⟩, by omega, ⟨[], rfl, ⟨rfl, rfl, rfl, rfl, trivial⟩, trivial⟩⟩
    · iterate 6 (all_goals ((conv => whnf); first | ((with_reducible refine sl_full ?ha ?_); (case ha => exact gA)) | ((with_reducible refine Ob.intro ?ha ?_); (case ha => exact gC)) | ((with_reducible refine br_lt ?_)) | ((with_reducible refine br_lf ?_)) | ((with_reducible refine br_pos ?ha ?_); (case ha => exact gB)) | ((with_reducible refine br_neg ?ha ?_); (case ha => exact gB)) | ((with_reducible refine br_t ?ha ?_); (case ha => with_reducible assumption)) | ((with_reducible refine br_f ?ha ?_); (case ha => with_reducible assumption)) | ((with_reducible refine br_dec (fun h => ?_) (fun h => ?_))) | ((with_reducible refine br_not ?_)) | ((with_reducible refine br_b (fun h => ?_) (fun h => ?_))) | ((with_reducible refine wr_i64 rfl ?ha ?hb ?_); (case ha => exact gB); (case hb => exact gB)) | ((with_reducible refine wr_u64 rfl ?ha ?hb ?_); (case ha => exact gB); (case hb => exact gB)) | ((with_reducible refine wr_u32 rfl ?ha ?hb ?_); (case ha => exact gB); (case hb => exact gB)) | ((with_reducible refine And.intro ?_ ?_)) | ((with_reducible refine True.intro)) | ((with_reducible refine Stp.go ?_)) | skip))
      rw [firstIx_none (before_all hkl hinv)] at hK
      exact hK

end Go.Proofs.YtgcplfplbcpemaaGreat

set_option linter.unusedVariables false
set_option linter.unusedSimpArgs false
set_option maxRecDepth 20000
namespace Go.Proofs.YtgcplfplbcpemaaGreat
open Go Go.Vm

def sEq (a b : ByteArray) : Bool := a.toList == b.toList
def devIx (l : List Dv) (n : ByteArray) : Int := firstIx (fun d => sEq d.name n) l
def edgeIx (l : List Ed) (n : ByteArray) : Int := firstIx (fun d => sEq d.name n) l

/-- netsegment/topology.Device$1 -/
theorem ctDev1 (d : Dv) (n : ByteArray) {K : AV → List Vm.Obj → Prop} (hK : K (.sb (sEq d.name n)) []) : ACall Tryz.prog 71 [encD d, .fp [.v (.string n)]] [] K := by
  refine oftDev1 rfl rfl ?_
  iterate 9 (all_goals ((conv => whnf); first | ((with_reducible refine sl_full ?ha ?_); (case ha => exact gA)) | ((with_reducible refine Ob.intro ?ha ?_); (case ha => exact gC)) | ((with_reducible refine br_lt ?_)) | ((with_reducible refine br_lf ?_)) | ((with_reducible refine br_pos ?ha ?_); (case ha => exact gB)) | ((with_reducible refine br_neg ?ha ?_); (case ha => exact gB)) | ((with_reducible refine br_t ?ha ?_); (case ha => with_reducible assumption)) | ((with_reducible refine br_f ?ha ?_); (case ha => with_reducible assumption)) | ((with_reducible refine br_dec (fun h => ?_) (fun h => ?_))) | ((with_reducible refine br_not ?_)) | ((with_reducible refine br_b (fun h => ?_) (fun h => ?_))) | ((with_reducible refine wr_i64 rfl ?ha ?hb ?_); (case ha => exact gB); (case hb => exact gB)) | ((with_reducible refine wr_u64 rfl ?ha ?hb ?_); (case ha => exact gB); (case hb => exact gB)) | ((with_reducible refine wr_u32 rfl ?ha ?hb ?_); (case ha => exact gB); (case hb => exact gB)) | ((with_reducible refine And.intro ?_ ?_)) | ((with_reducible refine True.intro)) | ((with_reducible refine Stp.go ?_)) | skip))
  exact hK
/-- netsegment/topology.Device -/
theorem ctDev (t : Tp) (n : ByteArray) (hl : t.devs.length < 1000000) {K : AV → List Vm.Obj → Prop} (hK : K (.v (.int .i64 (devIx t.devs n))) []) : ACall Tryz.prog 44 [encT t, .v (.string n)] [] K := by
  refine oftDev rfl rfl ?_
  iterate 9 (all_goals ((conv => whnf); first | (with_reducible refine cixDev _ _ _ (fun d => sEq d.name n) (fun x K h => ctDev1 x n h) hl ?_) | ((with_reducible refine sl_full ?ha ?_); (case ha => exact gA)) | ((with_reducible refine Ob.intro ?ha ?_); (case ha => exact gC)) | ((with_reducible refine br_lt ?_)) | ((with_reducible refine br_lf ?_)) | ((with_reducible refine br_pos ?ha ?_); (case ha => exact gB)) | ((with_reducible refine br_neg ?ha ?_); (case ha => exact gB)) | ((with_reducible refine br_t ?ha ?_); (case ha => with_reducible assumption)) | ((with_reducible refine br_f ?ha ?_); (case ha => with_reducible assumption)) | ((with_reducible refine br_dec (fun h => ?_) (fun h => ?_))) | ((with_reducible refine br_not ?_)) | ((with_reducible refine br_b (fun h => ?_) (fun h => ?_))) | ((with_reducible refine wr_i64 rfl ?ha ?hb ?_); (case ha => exact gB); (case hb => exact gB)) | ((with_reducible refine wr_u64 rfl ?ha ?hb ?_); (case ha => exact gB); (case hb => exact gB)) | ((with_reducible refine wr_u32 rfl ?ha ?hb ?_); (case ha => exact gB); (case hb => exact gB)) | ((with_reducible refine And.intro ?_ ?_)) | ((with_reducible refine True.intro)) | ((with_reducible refine Stp.go ?_)) | skip))
  exact hK
/-- netsegment/nsgref11.Device -/
theorem cuDev (t : Tp) (n : ByteArray) (hl : t.devs.length < 1000000) {K : AV → List Vm.Obj → Prop} (hK : K (.v (.int .i64 (devIx t.devs n))) []) : ACall Tryz.prog 81 [encT t, .v (.string n)] [] K := by
  refine ofuDev rfl rfl ?_
  iterate 4 (all_goals ((conv => whnf); first | ((with_reducible refine sl_full ?ha ?_); (case ha => exact gA)) | ((with_reducible refine Ob.intro ?ha ?_); (case ha => exact gC)) | ((with_reducible refine br_lt ?_)) | ((with_reducible refine br_lf ?_)) | ((with_reducible refine br_pos ?ha ?_); (case ha => exact gB)) | ((with_reducible refine br_neg ?ha ?_); (case ha => exact gB)) | ((with_reducible refine br_t ?ha ?_); (case ha => with_reducible assumption)) | ((with_reducible refine br_f ?ha ?_); (case ha => with_reducible assumption)) | ((with_reducible refine br_dec (fun h => ?_) (fun h => ?_))) | ((with_reducible refine br_not ?_)) | ((with_reducible refine br_b (fun h => ?_) (fun h => ?_))) | ((with_reducible refine wr_i64 rfl ?ha ?hb ?_); (case ha => exact gB); (case hb => exact gB)) | ((with_reducible refine wr_u64 rfl ?ha ?hb ?_); (case ha => exact gB); (case hb => exact gB)) | ((with_reducible refine wr_u32 rfl ?ha ?hb ?_); (case ha => exact gB); (case hb => exact gB)) | ((with_reducible refine And.intro ?_ ?_)) | ((with_reducible refine True.intro)) | ((with_reducible refine Stp.go ?_)) | skip))
  refine Lp.intro Nat (fun k => ⟨1, [(0, .box [.lst (t.devs.map encD), .lst (t.links.map encL), .lst (t.edges.map encE), .lst (t.pools.map encP), .v (.int .i64 t.tol)])], [(1, .v (.string n)), (2, .op 0 0), (5, .v (.int .i64 k))]⟩) (fun k => k ≤ t.devs.length ∧ ∀ (i : Nat) y, i < k → t.devs[i]? = some y → sEq y.name n = false) (fun k => t.devs.length - k) 0 ?_ ?_ ?_
  · exact ⟨Nat.zero_le _, fun i y hi => absurd hi (Nat.not_lt_zero _)⟩
  · exact ⟨[(0, 0)], rfl, ⟨rfl, rfl, rfl, trivial⟩, rfl, trivial⟩
  · intro k ⟨hk, hinv⟩
    rcases Nat.lt_or_ge k t.devs.length with hkl | hkl
    · obtain ⟨r, hr⟩ : ∃ r, t.devs[k]? = some r := ⟨_, List.getElem?_eq_getElem hkl⟩
      iterate 14 (all_goals ((conv => whnf); first | (with_reducible refine in_map hkl ?_) | (with_reducible refine ix_map hr ?_) | ((with_reducible refine sl_full ?ha ?_); (case ha => exact gA)) | ((with_reducible refine Ob.intro ?ha ?_); (case ha => exact gC)) | ((with_reducible refine br_lt ?_)) | ((with_reducible refine br_lf ?_)) | ((with_reducible refine br_pos ?ha ?_); (case ha => exact gB)) | ((with_reducible refine br_neg ?ha ?_); (case ha => exact gB)) | ((with_reducible refine br_t ?ha ?_); (case ha => with_reducible assumption)) | ((with_reducible refine br_f ?ha ?_); (case ha => with_reducible assumption)) | ((with_reducible refine br_dec (fun h => ?_) (fun h => ?_))) | ((with_reducible refine br_not ?_)) | ((with_reducible refine br_b (fun h => ?_) (fun h => ?_))) | ((with_reducible refine wr_i64 rfl ?ha ?hb ?_); (case ha => exact gB); (case hb => exact gB)) | ((with_reducible refine wr_u64 rfl ?ha ?hb ?_); (case ha => exact gB); (case hb => exact gB)) | ((with_reducible refine wr_u32 rfl ?ha ?hb ?_); (case ha => exact gB); (case hb => exact gB)) | ((with_reducible refine And.intro ?_ ?_)) | ((with_reducible refine True.intro)) | ((with_reducible refine Stp.go ?_)) | skip))
      · rw [devIx, firstIx_at hr h hinv] at hK; exact hK
      · exact ⟨k + 1, ⟨by omega, before_succ hr h hinv⟩, by omega, ⟨[(0, 0)], rfl, ⟨rfl, rfl, rfl, trivial⟩, rfl, trivial⟩⟩
    · iterate 8 (all_goals ((conv => whnf); first | ((with_reducible refine sl_full ?ha ?_); (case ha => exact gA)) | ((with_reducible refine Ob.intro ?ha ?_); (case ha => exact gC)) | ((with_reducible refine br_lt ?_)) | ((with_reducible refine br_lf ?_)) | ((with_reducible refine br_pos ?ha ?_); (case ha => exact gB)) | ((with_reducible refine br_neg ?ha ?_); (case ha => exact gB)) | ((with_reducible refine br_t ?ha ?_); (case ha => with_reducible assumption)) | ((with_reducible refine br_f ?ha ?_); (case ha => with_reducible assumption)) | ((with_reducible refine br_dec (fun h => ?_) (fun h => ?_))) | ((with_reducible refine br_not ?_)) | ((with_reducible refine br_b (fun h => ?_) (fun h => ?_))) | ((with_reducible refine wr_i64 rfl ?ha ?hb ?_); (case ha => exact gB); (case hb => exact gB)) | ((with_reducible refine wr_u64 rfl ?ha ?hb ?_); (case ha => exact gB); (case hb => exact gB)) | ((with_reducible refine wr_u32 rfl ?ha ?hb ?_); (case ha => exact gB); (case hb => exact gB)) | ((with_reducible refine And.intro ?_ ?_)) | ((with_reducible refine True.intro)) | ((with_reducible refine Stp.go ?_)) | skip))
      rw [devIx, firstIx_none (before_all hkl hinv)] at hK
      exact hK

/-- netsegment/topology.Edge$1 -/
theorem ctEdge1 (d : Ed) (n : ByteArray) {K : AV → List Vm.Obj → Prop} (hK : K (.sb (sEq d.name n)) []) : ACall Tryz.prog 73 [encE d, .fp [.v (.string n)]] [] K := by
  refine oftEdge1 rfl rfl ?_
  iterate 9 (all_goals ((conv => whnf); first | ((with_reducible refine sl_full ?ha ?_); (case ha => exact gA)) | ((with_reducible refine Ob.intro ?ha ?_); (case ha => exact gC)) | ((with_reducible refine br_lt ?_)) | ((with_reducible refine br_lf ?_)) | ((with_reducible refine br_pos ?ha ?_); (case ha => exact gB)) | ((with_reducible refine br_neg ?ha ?_); (case ha => exact gB)) | ((with_reducible refine br_t ?ha ?_); (case ha => with_reducible assumption)) | ((with_reducible refine br_f ?ha ?_); (case ha => with_reducible assumption)) | ((with_reducible refine br_dec (fun h => ?_) (fun h => ?_))) | ((with_reducible refine br_not ?_)) | ((with_reducible refine br_b (fun h => ?_) (fun h => ?_))) | ((with_reducible refine wr_i64 rfl ?ha ?hb ?_); (case ha => exact gB); (case hb => exact gB)) | ((with_reducible refine wr_u64 rfl ?ha ?hb ?_); (case ha => exact gB); (case hb => exact gB)) | ((with_reducible refine wr_u32 rfl ?ha ?hb ?_); (case ha => exact gB); (case hb => exact gB)) | ((with_reducible refine And.intro ?_ ?_)) | ((with_reducible refine True.intro)) | ((with_reducible refine Stp.go ?_)) | skip))
  exact hK
/-- netsegment/topology.Edge -/
theorem ctEdge (t : Tp) (n : ByteArray) (hl : t.edges.length < 1000000) {K : AV → List Vm.Obj → Prop} (hK : K (.v (.int .i64 (edgeIx t.edges n))) []) : ACall Tryz.prog 46 [encT t, .v (.string n)] [] K := by
  refine oftEdge rfl rfl ?_
  iterate 9 (all_goals ((conv => whnf); first | (with_reducible refine cixEdge _ _ _ (fun d => sEq d.name n) (fun x K h => ctEdge1 x n h) hl ?_) | ((with_reducible refine sl_full ?ha ?_); (case ha => exact gA)) | ((with_reducible refine Ob.intro ?ha ?_); (case ha => exact gC)) | ((with_reducible refine br_lt ?_)) | ((with_reducible refine br_lf ?_)) | ((with_reducible refine br_pos ?ha ?_); (case ha => exact gB)) | ((with_reducible refine br_neg ?ha ?_); (case ha => exact gB)) | ((with_reducible refine br_t ?ha ?_); (case ha => with_reducible assumption)) | ((with_reducible refine br_f ?ha ?_); (case ha => with_reducible assumption)) | ((with_reducible refine br_dec (fun h => ?_) (fun h => ?_))) | ((with_reducible refine br_not ?_)) | ((with_reducible refine br_b (fun h => ?_) (fun h => ?_))) | ((with_reducible refine wr_i64 rfl ?ha ?hb ?_); (case ha => exact gB); (case hb => exact gB)) | ((with_reducible refine wr_u64 rfl ?ha ?hb ?_); (case ha => exact gB); (case hb => exact gB)) | ((with_reducible refine wr_u32 rfl ?ha ?hb ?_); (case ha => exact gB); (case hb => exact gB)) | ((with_reducible refine And.intro ?_ ?_)) | ((with_reducible refine True.intro)) | ((with_reducible refine Stp.go ?_)) | skip))
  exact hK
/-- netsegment/nsgref11.Edge -/
theorem cuEdge (t : Tp) (n : ByteArray) (hl : t.edges.length < 1000000) {K : AV → List Vm.Obj → Prop} (hK : K (.v (.int .i64 (edgeIx t.edges n))) []) : ACall Tryz.prog 58 [encT t, .v (.string n)] [] K := by
  refine ofuEdge rfl rfl ?_
  iterate 4 (all_goals ((conv => whnf); first | ((with_reducible refine sl_full ?ha ?_); (case ha => exact gA)) | ((with_reducible refine Ob.intro ?ha ?_); (case ha => exact gC)) | ((with_reducible refine br_lt ?_)) | ((with_reducible refine br_lf ?_)) | ((with_reducible refine br_pos ?ha ?_); (case ha => exact gB)) | ((with_reducible refine br_neg ?ha ?_); (case ha => exact gB)) | ((with_reducible refine br_t ?ha ?_); (case ha => with_reducible assumption)) | ((with_reducible refine br_f ?ha ?_); (case ha => with_reducible assumption)) | ((with_reducible refine br_dec (fun h => ?_) (fun h => ?_))) | ((with_reducible refine br_not ?_)) | ((with_reducible refine br_b (fun h => ?_) (fun h => ?_))) | ((with_reducible refine wr_i64 rfl ?ha ?hb ?_); (case ha => exact gB); (case hb => exact gB)) | ((with_reducible refine wr_u64 rfl ?ha ?hb ?_); (case ha => exact gB); (case hb => exact gB)) | ((with_reducible refine wr_u32 rfl ?ha ?hb ?_); (case ha => exact gB); (case hb => exact gB)) | ((with_reducible refine And.intro ?_ ?_)) | ((with_reducible refine True.intro)) | ((with_reducible refine Stp.go ?_)) | skip))
  refine Lp.intro Nat (fun k => ⟨1, [(0, .box [.lst (t.devs.map encD), .lst (t.links.map encL), .lst (t.edges.map encE), .lst (t.pools.map encP), .v (.int .i64 t.tol)])], [(1, .v (.string n)), (2, .op 0 0), (5, .v (.int .i64 k))]⟩) (fun k => k ≤ t.edges.length ∧ ∀ (i : Nat) y, i < k → t.edges[i]? = some y → sEq y.name n = false) (fun k => t.edges.length - k) 0 ?_ ?_ ?_
  · exact ⟨Nat.zero_le _, fun i y hi => absurd hi (Nat.not_lt_zero _)⟩
  · exact ⟨[(0, 0)], rfl, ⟨rfl, rfl, rfl, trivial⟩, rfl, trivial⟩
  · intro k ⟨hk, hinv⟩
    rcases Nat.lt_or_ge k t.edges.length with hkl | hkl
    · obtain ⟨r, hr⟩ : ∃ r, t.edges[k]? = some r := ⟨_, List.getElem?_eq_getElem hkl⟩
      iterate 14 (all_goals ((conv => whnf); first | (with_reducible refine in_map hkl ?_) | (with_reducible refine ix_map hr ?_) | ((with_reducible refine sl_full ?ha ?_); (case ha => exact gA)) | ((with_reducible refine Ob.intro ?ha ?_); (case ha => exact gC)) | ((with_reducible refine br_lt ?_)) | ((with_reducible refine br_lf ?_)) | ((with_reducible refine br_pos ?ha ?_); (case ha => exact gB)) | ((with_reducible refine br_neg ?ha ?_); (case ha => exact gB)) | ((with_reducible refine br_t ?ha ?_); (case ha => with_reducible assumption)) | ((with_reducible refine br_f ?ha ?_); (case ha => with_reducible assumption)) | ((with_reducible refine br_dec (fun h => ?_) (fun h => ?_))) | ((with_reducible refine br_not ?_)) | ((with_reducible refine br_b (fun h => ?_) (fun h => ?_))) | ((with_reducible refine wr_i64 rfl ?ha ?hb ?_); (case ha => exact gB); (case hb => exact gB)) | ((with_reducible refine wr_u64 rfl ?ha ?hb ?_); (case ha => exact gB); (case hb => exact gB)) | ((with_reducible refine wr_u32 rfl ?ha ?hb ?_); (case ha => exact gB); (case hb => exact gB)) | ((with_reducible refine And.intro ?_ ?_)) | ((with_reducible refine True.intro)) | ((with_reducible refine Stp.go ?_)) | skip))
      · rw [edgeIx, firstIx_at hr h hinv] at hK; exact hK
      · exact ⟨k + 1, ⟨by omega, before_succ hr h hinv⟩, by omega, ⟨[(0, 0)], rfl, ⟨rfl, rfl, rfl, trivial⟩, rfl, trivial⟩⟩
    · iterate 8 (all_goals ((conv => whnf); first | ((with_reducible refine sl_full ?ha ?_); (case ha => exact gA)) | ((with_reducible refine Ob.intro ?ha ?_); (case ha => exact gC)) | ((with_reducible refine br_lt ?_)) | ((with_reducible refine br_lf ?_)) | ((with_reducible refine br_pos ?ha ?_); (case ha => exact gB)) | ((with_reducible refine br_neg ?ha ?_); (case ha => exact gB)) | ((with_reducible refine br_t ?ha ?_); (case ha => with_reducible assumption)) | ((with_reducible refine br_f ?ha ?_); (case ha => with_reducible assumption)) | ((with_reducible refine br_dec (fun h => ?_) (fun h => ?_))) | ((with_reducible refine br_not ?_)) | ((with_reducible refine br_b (fun h => ?_) (fun h => ?_))) | ((with_reducible refine wr_i64 rfl ?ha ?hb ?_); (case ha => exact gB); (case hb => exact gB)) | ((with_reducible refine wr_u64 rfl ?ha ?hb ?_); (case ha => exact gB); (case hb => exact gB)) | ((with_reducible refine wr_u32 rfl ?ha ?hb ?_); (case ha => exact gB); (case hb => exact gB)) | ((with_reducible refine And.intro ?_ ?_)) | ((with_reducible refine True.intro)) | ((with_reducible refine Stp.go ?_)) | skip))
      rw [edgeIx, firstIx_none (before_all hkl hinv)] at hK
      exact hK

def devOk (d : Dv) : Prop := nameOk d.name ∧ 0 ≤ d.cap ∧ d.cap ≤ 4096 ∧ (sEq d.cls ⟨#[]⟩ = true ∨ nameOk d.cls)
open Classical in
noncomputable def devB (d : Dv) : Bool := decide (devOk d)
theorem devB_true {d : Dv} (h : devOk d) : devB d = true := by simp [devB, h]
theorem devB_false {d : Dv} (h : ¬ devOk d) : devB d = false := by simp [devB, h]
theorem devB_iff {d : Dv} : devB d = true ↔ devOk d := by simp [devB]
theorem nameB_not {s : ByteArray} (h : nameB s = false) : ¬ nameOk s := fun hn => by rw [nameB_true hn] at h; cases h
/-- topology.validDevice -/
theorem ctDevOk (d : Dv) {K : AV → List Vm.Obj → Prop} (hK : K (.sb (devB d)) []) : ACall Tryz.prog 43 [encD d] [] K := by
  refine ACall.bool (oftDevOk rfl rfl ?_)
  iterate 30 (all_goals ((conv => whnf); first | (with_reducible refine csName _ ?_) | ((with_reducible refine sl_full ?ha ?_); (case ha => exact gA)) | ((with_reducible refine Ob.intro ?ha ?_); (case ha => exact gC)) | ((with_reducible refine br_lt ?_)) | ((with_reducible refine br_lf ?_)) | ((with_reducible refine br_pos ?ha ?_); (case ha => exact gB)) | ((with_reducible refine br_neg ?ha ?_); (case ha => exact gB)) | ((with_reducible refine br_t ?ha ?_); (case ha => with_reducible assumption)) | ((with_reducible refine br_f ?ha ?_); (case ha => with_reducible assumption)) | ((with_reducible refine br_dec (fun h => ?_) (fun h => ?_))) | ((with_reducible refine br_not ?_)) | ((with_reducible refine br_b (fun h => ?_) (fun h => ?_))) | ((with_reducible refine wr_i64 rfl ?ha ?hb ?_); (case ha => exact gB); (case hb => exact gB)) | ((with_reducible refine wr_u64 rfl ?ha ?hb ?_); (case ha => exact gB); (case hb => exact gB)) | ((with_reducible refine wr_u32 rfl ?ha ?hb ?_); (case ha => exact gB); (case hb => exact gB)) | ((with_reducible refine And.intro ?_ ?_)) | ((with_reducible refine True.intro)) | ((with_reducible refine Stp.go ?_)) | skip))
  all_goals first
    | (refine fin_t hK (devB_true ⟨nameB_iff.1 (by assumption), by omega, by omega, ?_⟩); exact .inl (by assumption))
    | (refine fin_s hK ?_
       rw [Bool.eq_iff_iff, devB_iff, nameB_iff]
       refine ⟨fun hh => hh.2.2.2.resolve_left (by rw [sEq, h]; simp), fun hh => ⟨nameB_iff.1 (by assumption), by omega, by omega, .inr hh⟩⟩)
    | (refine fin_f hK (devB_false fun hn => ?_)
       obtain ⟨n1, n2, n3, n4⟩ := hn
       first | omega | exact nameB_not (by assumption) n1)

def edgeOk (n : Int) (e : Ed) : Prop := nameOk e.name ∧ nameOk e.zone ∧ 0 ≤ e.dev ∧ e.dev < n ∧ 1 ≤ e.pf.bits ∧ e.pf.okP ∧ (e.pl = false ∨ e.pf.addr = 0)
open Classical in
noncomputable def edgeB (n : Int) (e : Ed) : Bool := decide (edgeOk n e)
theorem edgeB_true {n : Int} {e : Ed} (h : edgeOk n e) : edgeB n e = true := by simp [edgeB, h]
theorem edgeB_false {n : Int} {e : Ed} (h : ¬ edgeOk n e) : edgeB n e = false := by simp [edgeB, h]
theorem pl_of {e : Ed} (h : e.pl = true) : ¬ e.pl = false := by simp [h]
theorem edgeB_iff {n : Int} {e : Ed} : edgeB n e = true ↔ edgeOk n e := by simp [edgeB]
/-- topology.validEdge -/
theorem ctEdgeOk (t : Tp) (e : Ed) {K : AV → List Vm.Obj → Prop} (hK : K (.sb (edgeB t.devs.length e)) []) : ACall Tryz.prog 45 [encT t, encE e] [] K := by
  refine ACall.bool (oftEdgeOk rfl rfl ?_)
  iterate 50 (all_goals ((conv => whnf); first | (with_reducible refine csName _ ?_) | (with_reducible refine cpVal e.pf ?_) | ((with_reducible refine sl_full ?ha ?_); (case ha => exact gA)) | ((with_reducible refine Ob.intro ?ha ?_); (case ha => exact gC)) | ((with_reducible refine br_lt ?_)) | ((with_reducible refine br_lf ?_)) | ((with_reducible refine br_pos ?ha ?_); (case ha => exact gB)) | ((with_reducible refine br_neg ?ha ?_); (case ha => exact gB)) | ((with_reducible refine br_t ?ha ?_); (case ha => with_reducible assumption)) | ((with_reducible refine br_f ?ha ?_); (case ha => with_reducible assumption)) | ((with_reducible refine br_dec (fun h => ?_) (fun h => ?_))) | ((with_reducible refine br_not ?_)) | ((with_reducible refine br_b (fun h => ?_) (fun h => ?_))) | ((with_reducible refine wr_i64 rfl ?ha ?hb ?_); (case ha => exact gB); (case hb => exact gB)) | ((with_reducible refine wr_u64 rfl ?ha ?hb ?_); (case ha => exact gB); (case hb => exact gB)) | ((with_reducible refine wr_u32 rfl ?ha ?hb ?_); (case ha => exact gB); (case hb => exact gB)) | ((with_reducible refine And.intro ?_ ?_)) | ((with_reducible refine True.intro)) | ((with_reducible refine Stp.go ?_)) | skip))
  all_goals (try simp only [List.length_map] at *)
  all_goals first
    | (refine fin_t hK (edgeB_true ⟨nameB_iff.1 (by assumption), nameB_iff.1 (by assumption), by omega, by omega, by omega, by assumption, .inl (by assumption)⟩))
    | (refine fin_s hK ?_
       rw [Bool.eq_iff_iff, edgeB_iff, decide_eq_true_eq]
       refine ⟨fun hh => hh.2.2.2.2.2.2.resolve_left (pl_of (by assumption)), fun hh => ⟨nameB_iff.1 (by assumption), nameB_iff.1 (by assumption), by omega, by omega, by omega, by assumption, .inr hh⟩⟩)
    | (refine fin_f hK (edgeB_false fun hn => ?_)
       obtain ⟨n1, n2, n3, n4, n5, n6, n7⟩ := hn
       first | omega | (exact absurd n6 (by assumption)) | exact nameB_not (by assumption) n1 | exact nameB_not (by assumption) n2)
/-- nsgref11.validEdge -/
theorem cuEdgeOk (e : Ed) (n : Int) {K : AV → List Vm.Obj → Prop} (hK : K (.sb (edgeB n e)) []) : ACall Tryz.prog 57 [encE e, .v (.int .i64 n)] [] K := by
  refine ACall.bool (ofuEdgeOk rfl rfl ?_)
  iterate 50 (all_goals ((conv => whnf); first | (with_reducible refine crName _ ?_) | (with_reducible refine crVal e.pf ?_) | ((with_reducible refine sl_full ?ha ?_); (case ha => exact gA)) | ((with_reducible refine Ob.intro ?ha ?_); (case ha => exact gC)) | ((with_reducible refine br_lt ?_)) | ((with_reducible refine br_lf ?_)) | ((with_reducible refine br_pos ?ha ?_); (case ha => exact gB)) | ((with_reducible refine br_neg ?ha ?_); (case ha => exact gB)) | ((with_reducible refine br_t ?ha ?_); (case ha => with_reducible assumption)) | ((with_reducible refine br_f ?ha ?_); (case ha => with_reducible assumption)) | ((with_reducible refine br_dec (fun h => ?_) (fun h => ?_))) | ((with_reducible refine br_not ?_)) | ((with_reducible refine br_b (fun h => ?_) (fun h => ?_))) | ((with_reducible refine wr_i64 rfl ?ha ?hb ?_); (case ha => exact gB); (case hb => exact gB)) | ((with_reducible refine wr_u64 rfl ?ha ?hb ?_); (case ha => exact gB); (case hb => exact gB)) | ((with_reducible refine wr_u32 rfl ?ha ?hb ?_); (case ha => exact gB); (case hb => exact gB)) | ((with_reducible refine And.intro ?_ ?_)) | ((with_reducible refine True.intro)) | ((with_reducible refine Stp.go ?_)) | skip))
  all_goals (try simp only [List.length_map] at *)
  all_goals first
    | (refine fin_t hK (edgeB_true ⟨nameB_iff.1 (by assumption), nameB_iff.1 (by assumption), by omega, by omega, by omega, by assumption, .inl (by assumption)⟩))
    | (refine fin_s hK ?_
       rw [Bool.eq_iff_iff, edgeB_iff, decide_eq_true_eq]
       refine ⟨fun hh => hh.2.2.2.2.2.2.resolve_left (pl_of (by assumption)), fun hh => ⟨nameB_iff.1 (by assumption), nameB_iff.1 (by assumption), by omega, by omega, by omega, by assumption, .inr hh⟩⟩)
    | (refine fin_f hK (edgeB_false fun hn => ?_)
       obtain ⟨n1, n2, n3, n4, n5, n6, n7⟩ := hn
       first | omega | (exact absurd n6 (by assumption)) | exact nameB_not (by assumption) n1 | exact nameB_not (by assumption) n2)
end Go.Proofs.YtgcplfplbcpemaaGreat

