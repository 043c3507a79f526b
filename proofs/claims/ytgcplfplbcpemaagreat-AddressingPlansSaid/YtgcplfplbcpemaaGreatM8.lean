/- Parts of topologies compared; names that are literals. From contracts to statements: the frame; what arguments look like. The functions of the seat as the machine takes them: contexts, bodies, contracts out of the code. Printed by gsctx.py. The generator: topologies. The generator: planned topologies. The generated topologies are valid. -/
import Derived.Test.YtgcplfplbcpemaaGreatRows
import Derived.WalkKit
import Derived.ProofKit
import Derived.OpenShut
import Derived.Test.YtgcplfplbcpemaaGreatProg
import Derived.Test.YtgcplfplbcpemaaGreatM7
set_option linter.unusedVariables false
set_option linter.unusedSimpArgs false
set_option maxRecDepth 20000
namespace Go.Proofs.YtgcplfplbcpemaaGreat
open Go Go.Vm

theorem ba_ext {a b : ByteArray} : a.toList = b.toList ↔ a = b := by
  constructor
  · intro h
    rw [ByteArray.toList_eq, ByteArray.toList_eq] at h
    obtain ⟨⟨x⟩⟩ := a
    obtain ⟨⟨y⟩⟩ := b
    simp at h
    rw [h]
  · rintro rfl; rfl
theorem eqv_P {p q : Pf} {K : Bool → Prop} (hk : ∀ b, (b = true ↔ p = q) → K b) : EqV Tryz.prog 41 [.v (.int .u32 p.addr), .v (.int .i64 p.bits)] [.v (.int .u32 q.addr), .v (.int .i64 q.bits)] K := by
  refine eqv_of (b := (p.addr == q.addr && (p.bits == q.bits && true))) rfl rfl (by kernel_rfl) (by kernel_rfl) (hk _ ?_)
  obtain ⟨_, _, _, _⟩ := p
  obtain ⟨_, _, _, _⟩ := q
  simp [ba_ext]
theorem eqv_L {p q : Lk} {K : Bool → Prop} (hk : ∀ b, (b = true ↔ p = q) → K b) : EqV Tryz.prog 55 [.v (.int .i64 p.a), .v (.int .i64 p.b), .v (.int .i64 p.cost)] [.v (.int .i64 q.a), .v (.int .i64 q.b), .v (.int .i64 q.cost)] K := by
  refine eqv_of (b := (p.a == q.a && (p.b == q.b && (p.cost == q.cost && true)))) rfl rfl (by kernel_rfl) (by kernel_rfl) (hk _ ?_)
  obtain ⟨_, _, _⟩ := p
  obtain ⟨_, _, _⟩ := q
  simp [ba_ext]
theorem eqv_D {p q : Dv} {K : Bool → Prop} (hk : ∀ b, (b = true ↔ p = q) → K b) : EqV Tryz.prog 53 [.v (.string p.name), .v (.int .i64 p.cap), .sb p.rg, .sb p.vol, .v (.string p.cls)] [.v (.string q.name), .v (.int .i64 q.cap), .sb q.rg, .sb q.vol, .v (.string q.cls)] K := by
  refine eqv_of (b := (p.name.toList == q.name.toList && (p.cap == q.cap && (p.rg == q.rg && (p.vol == q.vol && (p.cls.toList == q.cls.toList && true)))))) rfl rfl (by kernel_rfl) (by kernel_rfl) (hk _ ?_)
  obtain ⟨_, _, _, _, _⟩ := p
  obtain ⟨_, _, _, _, _⟩ := q
  simp [ba_ext]
theorem eqv_E {p q : Ed} {K : Bool → Prop} (hk : ∀ b, (b = true ↔ p = q) → K b) : EqV Tryz.prog 43 [.v (.string p.name), .v (.int .i64 p.dev), .v (.string p.zone), .v (.int .u32 p.pf.addr), .v (.int .i64 p.pf.bits), .sb p.pl] [.v (.string q.name), .v (.int .i64 q.dev), .v (.string q.zone), .v (.int .u32 q.pf.addr), .v (.int .i64 q.pf.bits), .sb q.pl] K := by
  refine eqv_of (b := (p.name.toList == q.name.toList && (p.dev == q.dev && (p.zone.toList == q.zone.toList && ((p.pf.addr == q.pf.addr && (p.pf.bits == q.pf.bits && true)) && (p.pl == q.pl && true)))))) rfl rfl (by kernel_rfl) (by kernel_rfl) (hk _ ?_)
  obtain ⟨_, _, _, ⟨_, _, _, _⟩, _⟩ := p
  obtain ⟨_, _, _, ⟨_, _, _, _⟩, _⟩ := q
  simp [ba_ext]
def nmLB (b : UInt8) : Bool := Nat.ble 97 b.toNat && Nat.ble b.toNat 122
def nmCB (b : UInt8) : Bool := nmLB b || (Nat.ble 48 b.toNat && Nat.ble b.toNat 57) || Nat.beq b.toNat 45 || Nat.beq b.toNat 95
def nmChk (l : List UInt8) : Bool := match l with
  | [] => false
  | a :: r => nmLB a && (r.all nmCB && (Nat.ble r.length 23 && !(l == [97, 110, 121])))
theorem nmLB_spec {b : UInt8} (h : nmLB b = true) : nmL (b.toNat : Int) := by
  simp only [nmLB, Bool.and_eq_true] at h
  have h1 := Nat.le_of_ble_eq_true h.1; have h2 := Nat.le_of_ble_eq_true h.2
  unfold nmL; omega
theorem nmCB_spec {b : UInt8} (h : nmCB b = true) : nmC (b.toNat : Int) := by
  simp only [nmCB, Bool.or_eq_true, Bool.and_eq_true] at h
  unfold nmC
  rcases h with ((h | ⟨h1, h2⟩) | h) | h
  · have := nmLB_spec h; unfold nmL at this; omega
  · have h1 := Nat.le_of_ble_eq_true h1; have h2 := Nat.le_of_ble_eq_true h2; omega
  · have := Nat.eq_of_beq_eq_true h; omega
  · have := Nat.eq_of_beq_eq_true h; omega
/-- a literal that is a name -/
theorem nameOk_lit (l : List UInt8) (h : nmChk l = true) : nameOk ⟨⟨l⟩⟩ := by
  cases l with
  | nil => cases h
  | cons a r =>
    simp only [nmChk, Bool.and_eq_true, List.all_eq_true, Bool.not_eq_true'] at h
    obtain ⟨h1, h2, h3, h4⟩ := h
    have h3 := Nat.le_of_ble_eq_true h3
    have hget : ∀ (i : Nat) b, (⟨⟨a :: r⟩⟩ : ByteArray)[i]? = some b → (a :: r)[i]? = some b := by
      intro i b hb
      by_cases h : i < (⟨⟨a :: r⟩⟩ : ByteArray).size
      · rw [getElem?_pos _ i h] at hb
        have h' : i < (a :: r).length := h
        rw [List.getElem?_eq_getElem h']
        exact hb
      · rw [getElem?_neg _ i h] at hb; cases hb
    refine ⟨?_, ?_, ?_, fun b hb => ?_, fun i b hb => ?_⟩
    · rw [ByteArray.toList_eq, ByteArray.toList_eq]; rfl
    · show (((a :: r).length : Nat) : Int) ≤ 24
      simp; omega
    · rw [ByteArray.toList_eq, ByteArray.toList_eq]
      exact h4
    · have := hget 0 b hb
      simp at this; subst this
      exact nmLB_spec h1
    · have := hget i b hb
      cases i with
      | zero => simp at this; subst this; exact nmCB_spec (by simp [nmCB, h1])
      | succ i => exact nmCB_spec (h2 b (List.mem_of_getElem? (by simpa using this)))
end Go.Proofs.YtgcplfplbcpemaaGreat

set_option linter.unusedVariables false
set_option maxRecDepth 20000
namespace Go.Proofs.YtgcplfplbcpemaaGreat
open Go Go.Vm Go.ChangeShapes Go.WideShapes Go.ChangeAt Go.RowKit

abbrev Yes : AV → List Vm.Obj → Prop := fun r _ => r = .sb true ∨ r = .v (.bool true)
theorem yes_v {Q : Prop} : (∃ b, AV.v (.bool true) = .v (.bool b) ∧ Yes (.sb b) []) ∨ Q := .inl ⟨true, rfl, .inl rfl⟩
theorem yes_sb {b : Bool} {Q : Prop} (h : b = true) : Q ∨ (∃ c, AV.sb b = .sb c ∧ Yes (.sb c) []) := .inr ⟨b, rfl, .inl (by rw [h])⟩
theorem ownNone : ownKnob Tryz.prog.godebug = none := by kernel_rfl
theorem laidOut : laidOutB Tryz.prog = true := by kernel_rfl

theorem list_enc {α : Type} (enc : α → AV) : ∀ {xs : List AV}, (∀ y, y ∈ xs → ∃ a, y = enc a) → ∃ l : List α, xs = l.map enc
  | [], _ => ⟨[], rfl⟩
  | y :: ys, h => by
    obtain ⟨a, rfl⟩ := h y (by simp)
    obtain ⟨l, rfl⟩ := list_enc enc (xs := ys) fun z hz => h z (List.mem_cons_of_mem _ hz)
    exact ⟨a :: l, rfl⟩
theorem ty_is {d : Nat} {x : AV} (h : Ty Tryz.prog (d + 2) 22 x) : ∃ raw : List Int, x = .lst (raw.map encI) ∧ raw.length ≤ 9223372036854775807 := by
  obtain ⟨xs, rfl, hl, hx⟩ := h
  obtain ⟨l, rfl⟩ := list_enc encI fun y hy => by
    obtain ⟨i, hr, _⟩ := hx y hy
    exact ⟨i, hr⟩
  refine ⟨l, rfl, ?_⟩
  simpa [maxLen] using hl
theorem ty_pf {d : Nat} {y : AV} (h : Ty Tryz.prog (d + 2) 41 y) : ∃ p : Pf, y = encP p := by
  obtain ⟨ys, hl, rfl, hf⟩ := h
  match ys, hl with
  | [p, q], _ =>
    obtain ⟨i, rfl, i0, i1⟩ := hf 0 _ p rfl rfl
    obtain ⟨j, rfl, _⟩ := hf 1 _ q rfl rfl
    exact ⟨⟨i, j, i0, i1⟩, rfl⟩
theorem ty_dv {d : Nat} {y : AV} (h : Ty Tryz.prog (d + 2) 53 y) : ∃ p : Dv, y = encD p := by
  obtain ⟨ys, hl, rfl, hf⟩ := h
  match ys, hl with
  | [a, b, c, e, f], _ =>
    obtain ⟨a, rfl, _⟩ := hf 0 _ a rfl rfl
    obtain ⟨b, rfl, _⟩ := hf 1 _ b rfl rfl
    obtain ⟨c, rfl⟩ := hf 2 _ c rfl rfl
    obtain ⟨e, rfl⟩ := hf 3 _ e rfl rfl
    obtain ⟨f, rfl, _⟩ := hf 4 _ f rfl rfl
    exact ⟨⟨a, b, c, e, f⟩, rfl⟩
theorem ty_lk {d : Nat} {y : AV} (h : Ty Tryz.prog (d + 2) 55 y) : ∃ p : Lk, y = encL p := by
  obtain ⟨ys, hl, rfl, hf⟩ := h
  match ys, hl with
  | [a, b, c], _ =>
    obtain ⟨a, rfl, _⟩ := hf 0 _ a rfl rfl
    obtain ⟨b, rfl, _⟩ := hf 1 _ b rfl rfl
    obtain ⟨c, rfl, _⟩ := hf 2 _ c rfl rfl
    exact ⟨⟨a, b, c⟩, rfl⟩
theorem ty_ed {d : Nat} {y : AV} (h : Ty Tryz.prog (d + 3) 43 y) : ∃ p : Ed, y = encE p := by
  obtain ⟨ys, hl, rfl, hf⟩ := h
  match ys, hl with
  | [a, b, c, e, f], _ =>
    obtain ⟨a, rfl, _⟩ := hf 0 _ a rfl rfl
    obtain ⟨b, rfl, _⟩ := hf 1 _ b rfl rfl
    obtain ⟨c, rfl, _⟩ := hf 2 _ c rfl rfl
    obtain ⟨e, rfl⟩ := ty_pf (d := d) (hf 3 _ e rfl rfl)
    obtain ⟨f, rfl⟩ := hf 4 _ f rfl rfl
    exact ⟨⟨a, b, c, e, f⟩, rfl⟩
theorem ty_tp {d : Nat} {y : AV} (h : Ty Tryz.prog (d + 5) 28 y) : ∃ t : Tp, y = encT t := by
  obtain ⟨ys, hl, rfl, hf⟩ := h
  match ys, hl with
  | [a, b, c, e, f], _ =>
    obtain ⟨a, rfl, _, ha⟩ := hf 0 _ a rfl rfl
    obtain ⟨b, rfl, _, hb⟩ := hf 1 _ b rfl rfl
    obtain ⟨c, rfl, _, hc⟩ := hf 2 _ c rfl rfl
    obtain ⟨e, rfl, _, he⟩ := hf 3 _ e rfl rfl
    obtain ⟨f, rfl, _⟩ := hf 4 _ f rfl rfl
    obtain ⟨a, rfl⟩ := list_enc encD fun y hy => ty_dv (d := d + 1) (ha y hy)
    obtain ⟨b, rfl⟩ := list_enc encL fun y hy => ty_lk (d := d + 1) (hb y hy)
    obtain ⟨c, rfl⟩ := list_enc encE fun y hy => ty_ed (d := d) (hc y hy)
    obtain ⟨e, rfl⟩ := list_enc encP fun y hy => ty_pf (d := d + 1) (he y hy)
    exact ⟨⟨a, b, c, e, f⟩, rfl⟩
end Go.Proofs.YtgcplfplbcpemaaGreat

set_option linter.unusedVariables false
set_option maxRecDepth 20000
namespace Go.Proofs.YtgcplfplbcpemaaGreat
open Go Go.Vm

/-- netsegment/nsggen.HugeTopology -/
noncomputable def gnHuge : Ctx := { N := 25, np := 0, own := fun _ => false, plan := fun _ => none, hints := fun _ => [], cut := fun _ => false }
noncomputable def bnHuge : Code := match Tryz.f10.body with | some c => c | none => .skip
theorem ofnHuge {args : List AV} {hs : List Vm.Obj} {K : AV → List Vm.Obj → Prop} (hp : Nat.beq gnHuge.np hs.length = true) (ha : Nat.ble args.length 25 = true) (hq : initQ hs args fun σ => codeQ Tryz.prog gnHuge bnHuge σ (retQ Tryz.prog gnHuge Tryz.f10.results.toList K)) : ACall Tryz.prog 10 args hs K :=
  ACall.of_code (Γ := gnHuge) Tryz.func10 (by kernel_rfl) (by kernel_rfl) (by kernel_rfl) (by kernel_rfl) (Nat.eq_of_beq_eq_true hp) ha hq
/-- netsegment/nsggen.Subnet -/
noncomputable def gnSub : Ctx := { N := 14, np := 0, own := fun _ => false, plan := fun _ => none, hints := fun _ => [], cut := fun _ => false }
noncomputable def bnSub : Code := match Tryz.f24.body with | some c => c | none => .skip
theorem ofnSub {args : List AV} {hs : List Vm.Obj} {K : AV → List Vm.Obj → Prop} (hp : Nat.beq gnSub.np hs.length = true) (ha : Nat.ble args.length 14 = true) (hq : initQ hs args fun σ => codeQ Tryz.prog gnSub bnSub σ (retQ Tryz.prog gnSub Tryz.f24.results.toList K)) : ACall Tryz.prog 24 args hs K :=
  ACall.of_code (Γ := gnSub) Tryz.func24 (by kernel_rfl) (by kernel_rfl) (by kernel_rfl) (by kernel_rfl) (Nat.eq_of_beq_eq_true hp) ha hq
/-- (*netsegment/nsggen.Tape).Topology -/
noncomputable def gnTop : Ctx := { N := 154, np := 1, own := fun i => match Nat.beq i 15 with | true => true | false => false, plan := fun i => match Nat.beq i 6 with | true => some (.one 1 true (.one 5 true (.alt 0 (.one 2 true (.wch 3 (.alt 4 (.alt 6 (.one 7 true (.one 8 true (.one 9 true (.one 10 false (.one 11 false (.done)))))) (.alt 10 (.one 6 false (.one 7 true (.one 8 true (.one 9 true (.one 11 false (.done)))))) (.stop))) (.alt 6 (.alt 4 (.one 7 true (.one 8 true (.one 9 true (.one 10 false (.one 11 false (.done)))))) (.alt 10 (.one 4 false (.one 7 true (.one 8 true (.one 9 true (.one 11 false (.done)))))) (.stop))) (.alt 10 (.alt 4 (.one 6 false (.one 7 true (.one 8 true (.one 9 true (.one 11 false (.done)))))) (.alt 6 (.one 4 false (.one 7 true (.one 8 true (.one 9 true (.one 11 false (.done)))))) (.stop))) (.stop)))))) (.alt 4 (.alt 0 (.one 2 true (.wch 3 (.alt 6 (.one 7 true (.one 8 true (.one 9 true (.one 10 false (.one 11 false (.done)))))) (.alt 10 (.one 6 false (.one 7 true (.one 8 true (.one 9 true (.one 11 false (.done)))))) (.stop))))) (.alt 6 (.one 7 true (.one 8 true (.alt 0 (.one 2 true (.one 3 true (.one 9 true (.one 10 false (.one 11 false (.done)))))) (.alt 10 (.one 0 false (.one 2 true (.one 3 true (.one 9 true (.one 11 false (.done)))))) (.stop))))) (.alt 10 (.alt 0 (.one 2 true (.wch 3 (.one 6 false (.one 7 true (.one 8 true (.one 9 true (.one 11 false (.done)))))))) (.alt 6 (.one 7 true (.one 8 true (.one 0 false (.one 2 true (.one 3 true (.one 9 true (.one 11 false (.done)))))))) (.stop))) (.stop)))) (.alt 6 (.alt 0 (.one 2 true (.one 3 true (.alt 4 (.one 7 true (.one 8 true (.one 9 true (.one 10 false (.one 11 false (.done)))))) (.alt 10 (.one 4 false (.one 7 true (.one 8 true (.one 9 true (.one 11 false (.done)))))) (.stop))))) (.alt 4 (.one 7 true (.one 8 true (.alt 0 (.one 2 true (.one 3 true (.one 9 true (.one 10 false (.one 11 false (.done)))))) (.alt 10 (.one 0 false (.one 2 true (.one 3 true (.one 9 true (.one 11 false (.done)))))) (.stop))))) (.alt 10 (.alt 0 (.one 2 true (.one 3 true (.one 4 false (.one 7 true (.one 8 true (.one 9 true (.one 11 false (.done)))))))) (.alt 4 (.one 7 true (.one 8 true (.one 0 false (.one 2 true (.one 3 true (.one 9 true (.one 11 false (.done)))))))) (.stop))) (.stop)))) (.alt 10 (.alt 0 (.one 2 true (.wch 3 (.alt 4 (.one 6 false (.one 7 true (.one 8 true (.one 9 true (.one 11 false (.done)))))) (.alt 6 (.one 4 false (.one 7 true (.one 8 true (.one 9 true (.one 11 false (.done)))))) (.stop))))) (.alt 4 (.alt 0 (.one 2 true (.wch 3 (.one 6 false (.one 7 true (.one 8 true (.one 9 true (.one 11 false (.done)))))))) (.alt 6 (.one 7 true (.one 8 true (.one 0 false (.one 2 true (.one 3 true (.one 9 true (.one 11 false (.done)))))))) (.stop))) (.alt 6 (.alt 0 (.one 2 true (.one 3 true (.one 4 false (.one 7 true (.one 8 true (.one 9 true (.one 11 false (.done)))))))) (.alt 4 (.one 7 true (.one 8 true (.one 0 false (.one 2 true (.one 3 true (.one 9 true (.one 11 false (.done)))))))) (.stop))) (.stop)))) (.stop))))))) | false => match Nat.beq i 11 with | true => some (.one 0 true (.one 2 true (.one 3 true (.one 5 true (.one 7 true (.wch 1 (.alt 4 (.alt 6 (.one 8 false (.one 9 true (.one 10 true (.one 11 true (.one 12 false (.one 13 false (.one 14 true (.one 15 false (.done))))))))) (.alt 8 (.one 6 false (.one 9 true (.one 10 true (.one 11 true (.one 12 false (.one 13 false (.one 14 true (.one 15 false (.done))))))))) (.stop))) (.alt 6 (.one 4 false (.one 8 false (.one 9 true (.one 10 true (.one 11 true (.one 12 false (.one 13 false (.one 14 true (.one 15 false (.done)))))))))) (.stop))))))))) | false => match Nat.beq i 16 with | true => some (.one 0 true (.one 2 true (.one 3 true (.one 5 true (.one 7 true (.wch 1 (.alt 4 (.alt 6 (.one 8 false (.one 9 true (.one 10 true (.one 11 true (.one 12 false (.one 13 false (.one 14 true (.one 15 false (.done))))))))) (.alt 8 (.one 6 false (.one 9 true (.one 10 true (.one 11 true (.one 12 false (.one 13 false (.one 14 true (.one 15 false (.done))))))))) (.stop))) (.alt 6 (.one 4 false (.one 8 false (.one 9 true (.one 10 true (.one 11 true (.one 12 false (.one 13 false (.one 14 true (.one 15 false (.done)))))))))) (.stop))))))))) | false => match Nat.beq i 21 with | true => some (.one 0 true (.one 3 true (.one 6 true (.one 7 true (.one 10 true (.one 14 true (.wch 1 (.alt 2 (.one 4 true (.wch 5 (.alt 8 (.alt 9 (.one 11 false (.one 12 true (.one 13 true (.one 15 false (.one 16 true (.one 17 false (.one 18 false (.one 19 true (.one 20 false (.done)))))))))) (.alt 11 (.alt 9 (.one 12 true (.one 13 true (.one 15 false (.one 16 true (.one 17 false (.one 18 false (.one 19 true (.one 20 false (.done))))))))) (.alt 15 (.one 9 false (.one 12 true (.one 13 true (.one 16 true (.one 17 false (.one 18 false (.one 19 true (.one 20 false (.done))))))))) (.stop))) (.stop))) (.alt 9 (.one 8 false (.one 11 false (.one 12 true (.one 13 true (.one 15 false (.one 16 true (.one 17 false (.one 18 false (.one 19 true (.one 20 false (.done))))))))))) (.stop))))) (.alt 8 (.alt 2 (.one 4 true (.wch 5 (.alt 9 (.one 11 false (.one 12 true (.one 13 true (.one 15 false (.one 16 true (.one 17 false (.one 18 false (.one 19 true (.one 20 false (.done)))))))))) (.alt 11 (.alt 9 (.one 12 true (.one 13 true (.one 15 false (.one 16 true (.one 17 false (.one 18 false (.one 19 true (.one 20 false (.done))))))))) (.alt 15 (.one 9 false (.one 12 true (.one 13 true (.one 16 true (.one 17 false (.one 18 false (.one 19 true (.one 20 false (.done))))))))) (.stop))) (.stop))))) (.alt 9 (.alt 2 (.one 4 true (.wch 5 (.one 11 false (.one 12 true (.one 13 true (.one 15 false (.one 16 true (.one 17 false (.one 18 false (.one 19 true (.one 20 false (.done)))))))))))) (.alt 11 (.one 12 true (.one 13 true (.alt 2 (.one 4 true (.one 5 true (.one 15 false (.one 16 true (.one 17 false (.one 18 false (.one 19 true (.one 20 false (.done))))))))) (.alt 15 (.one 2 false (.one 4 true (.one 5 true (.one 16 true (.one 17 false (.one 18 false (.one 19 true (.one 20 false (.done))))))))) (.stop))))) (.stop))) (.alt 11 (.alt 2 (.one 4 true (.one 5 true (.alt 9 (.one 12 true (.one 13 true (.one 15 false (.one 16 true (.one 17 false (.one 18 false (.one 19 true (.one 20 false (.done))))))))) (.alt 15 (.one 9 false (.one 12 true (.one 13 true (.one 16 true (.one 17 false (.one 18 false (.one 19 true (.one 20 false (.done))))))))) (.stop))))) (.alt 9 (.one 12 true (.one 13 true (.alt 2 (.one 4 true (.one 5 true (.one 15 false (.one 16 true (.one 17 false (.one 18 false (.one 19 true (.one 20 false (.done))))))))) (.alt 15 (.one 2 false (.one 4 true (.one 5 true (.one 16 true (.one 17 false (.one 18 false (.one 19 true (.one 20 false (.done))))))))) (.stop))))) (.alt 15 (.alt 2 (.one 4 true (.one 5 true (.one 9 false (.one 12 true (.one 13 true (.one 16 true (.one 17 false (.one 18 false (.one 19 true (.one 20 false (.done))))))))))) (.alt 9 (.one 12 true (.one 13 true (.one 2 false (.one 4 true (.one 5 true (.one 16 true (.one 17 false (.one 18 false (.one 19 true (.one 20 false (.done))))))))))) (.stop))) (.stop)))) (.stop)))) (.alt 9 (.alt 2 (.one 4 true (.wch 5 (.one 8 false (.one 11 false (.one 12 true (.one 13 true (.one 15 false (.one 16 true (.one 17 false (.one 18 false (.one 19 true (.one 20 false (.done))))))))))))) (.alt 8 (.alt 2 (.one 4 true (.wch 5 (.one 11 false (.one 12 true (.one 13 true (.one 15 false (.one 16 true (.one 17 false (.one 18 false (.one 19 true (.one 20 false (.done)))))))))))) (.alt 11 (.one 12 true (.one 13 true (.alt 2 (.one 4 true (.one 5 true (.one 15 false (.one 16 true (.one 17 false (.one 18 false (.one 19 true (.one 20 false (.done))))))))) (.alt 15 (.one 2 false (.one 4 true (.one 5 true (.one 16 true (.one 17 false (.one 18 false (.one 19 true (.one 20 false (.done))))))))) (.stop))))) (.stop))) (.stop))) (.stop))))))))))) | false => none, hints := fun i => match Nat.beq i 2 with | true => [.virtB 5 0 5, .virtB 5 1 3, .virtB 5 2 6, .virtB 5 3 2] | false => [], cut := fun i => match Nat.beq i 7 with | true => true | false => match Nat.beq i 17 with | true => true | false => match Nat.beq i 20 with | true => true | false => false, res := true }
noncomputable def bnTop : Code := match Tryz.f9.body with | some c => c | none => .skip
theorem ofnTop {args : List AV} {hs : List Vm.Obj} {K : AV → List Vm.Obj → Prop} (hp : Nat.beq gnTop.np hs.length = true) (ha : Nat.ble args.length 154 = true) (hq : initQ hs args fun σ => codeQ Tryz.prog gnTop bnTop σ (retQ Tryz.prog gnTop Tryz.f9.results.toList K)) : ACall Tryz.prog 9 args hs K :=
  ACall.of_code (Γ := gnTop) Tryz.func9 (by kernel_rfl) (by kernel_rfl) (by kernel_rfl) (by kernel_rfl) (Nat.eq_of_beq_eq_true hp) ha hq
/-- (*netsegment/nsggen.Tape).Planned -/
noncomputable def gnPla : Ctx := { N := 47, np := 1, own := fun i => match Nat.beq i 15 with | true => true | false => match Nat.beq i 9 with | true => true | false => false, plan := fun i => match Nat.beq i 8 with | true => some (.one 0 true (.one 2 true (.one 3 true (.one 5 true (.one 7 true (.wch 1 (.alt 4 (.alt 6 (.one 8 false (.one 9 true (.one 10 true (.one 11 true (.one 12 true (.one 13 true (.one 14 false (.one 15 true (.one 16 true (.one 17 false (.done))))))))))) (.alt 8 (.one 6 false (.one 9 true (.one 10 true (.one 11 true (.one 12 true (.one 13 true (.one 14 false (.one 15 true (.one 16 true (.one 17 false (.done))))))))))) (.stop))) (.alt 6 (.alt 4 (.one 8 false (.one 9 true (.one 10 true (.one 11 true (.one 12 true (.one 13 true (.one 14 false (.one 15 true (.one 16 true (.one 17 false (.done))))))))))) (.alt 8 (.one 9 true (.one 10 true (.one 11 true (.one 12 true (.one 13 true (.alt 4 (.one 14 false (.one 15 true (.one 16 true (.one 17 false (.done))))) (.alt 14 (.one 4 true (.one 15 true (.one 16 true (.one 17 false (.done))))) (.stop)))))))) (.stop))) (.alt 8 (.alt 4 (.one 6 false (.one 9 true (.one 10 true (.one 11 true (.one 12 true (.one 13 true (.one 14 false (.one 15 true (.one 16 true (.one 17 false (.done))))))))))) (.alt 6 (.one 9 true (.one 10 true (.one 11 true (.one 12 true (.one 13 true (.alt 4 (.one 14 false (.one 15 true (.one 16 true (.one 17 false (.done))))) (.alt 14 (.one 4 true (.one 15 true (.one 16 true (.one 17 false (.done))))) (.stop)))))))) (.stop))) (.stop)))))))))) | false => none, hints := fun _ => [], cut := fun i => match Nat.beq i 4 with | true => true | false => match Nat.beq i 6 with | true => true | false => false }
noncomputable def bnPla : Code := match Tryz.f6.body with | some c => c | none => .skip
theorem ofnPla {args : List AV} {hs : List Vm.Obj} {K : AV → List Vm.Obj → Prop} (hp : Nat.beq gnPla.np hs.length = true) (ha : Nat.ble args.length 47 = true) (hq : initQ hs args fun σ => codeQ Tryz.prog gnPla bnPla σ (retQ Tryz.prog gnPla Tryz.f6.results.toList K)) : ACall Tryz.prog 6 args hs K :=
  ACall.of_code (Γ := gnPla) Tryz.func6 (by kernel_rfl) (by kernel_rfl) (by kernel_rfl) (by kernel_rfl) (Nat.eq_of_beq_eq_true hp) ha hq

end Go.Proofs.YtgcplfplbcpemaaGreat

set_option linter.unusedVariables false
set_option linter.unusedSimpArgs false
set_option maxRecDepth 20000
set_option maxHeartbeats 4000000
namespace Go.Proofs.YtgcplfplbcpemaaGreat
open Go Go.Vm

/-- nsggen.HugeTopology -/
def huge (t : Tp) : Bool := decide (6 < t.devs.length) || decide (9 < t.links.length) || decide (5 < t.edges.length) || decide (4 < t.pools.length)
theorem cnHuge (t : Tp) {K : AV → List Vm.Obj → Prop} (hK : K (.sb (huge t)) []) : ACall Tryz.prog 10 [encT t] [] K := by
  refine ACall.bool (ofnHuge rfl rfl ?_)
  iterate 60 (all_goals ((conv => whnf); first | ((with_reducible refine sl_full ?ha ?_); (case ha => exact gA)) | ((with_reducible refine Ob.intro ?ha ?_); (case ha => exact gC)) | ((with_reducible refine br_lt ?_)) | ((with_reducible refine br_lf ?_)) | ((with_reducible refine br_pos ?ha ?_); (case ha => exact gB)) | ((with_reducible refine br_neg ?ha ?_); (case ha => exact gB)) | ((with_reducible refine br_t ?ha ?_); (case ha => with_reducible assumption)) | ((with_reducible refine br_f ?ha ?_); (case ha => with_reducible assumption)) | ((with_reducible refine br_dec (fun h => ?_) (fun h => ?_))) | ((with_reducible refine br_not ?_)) | ((with_reducible refine br_b (fun h => ?_) (fun h => ?_))) | ((with_reducible refine wr_i64 rfl ?ha ?hb ?_); (case ha => exact gB); (case hb => exact gB)) | ((with_reducible refine wr_u64 rfl ?ha ?hb ?_); (case ha => exact gB); (case hb => exact gB)) | ((with_reducible refine wr_u32 rfl ?ha ?hb ?_); (case ha => exact gB); (case hb => exact gB)) | ((with_reducible refine And.intro ?_ ?_)) | ((with_reducible refine True.intro)) | ((with_reducible refine Stp.go ?_)) | skip))
  all_goals simp only [List.length_map] at *
  all_goals first
    | (refine fin_t hK ?_; simp only [huge, Bool.or_eq_true, decide_eq_true_eq]; omega)
    | (refine fin_f hK ?_; simp only [huge, Bool.or_eq_false_iff, decide_eq_false_iff_not]; omega)
    | (refine fin_s hK ?_; simp only [huge]; rw [Bool.eq_iff_iff]; simp only [Bool.or_eq_true, decide_eq_true_eq]; omega)

/-- (*Tape).Next, its result as a natural number -/
theorem nNext (raw : List Int) (pos : Nat) (n : Int) (hn2 : n ≤ 9223372036854775807) (hp : pos ≤ raw.length) (hr : raw.length ≤ 9223372036854775807) {K : AV → List Vm.Obj → Prop}
    (hK : ∀ (m pos' : Nat), (m = 0 ∨ m < n) → pos' ≤ raw.length → K (.v (.int .i64 m)) [tapeO raw pos']) : ACall Tryz.prog 15 [.op 0 0, .v (.int .i64 n)] [tapeO raw pos] K :=
  c13 raw pos n hn2 hp hr fun m pos' m0 m1 hp' => by
    obtain ⟨k, rfl⟩ := Int.eq_ofNat_of_zero_le m0
    exact hK k pos' (by omega) hp'
theorem ix_ints {xs : List AV} {i : Nat} {K : AV → Prop} (L : List Int) (n : Nat) (h : xs = L.map fun c => .v (.int .i64 c)) (hn : L.length = n) (hi : i < n) (hk : ∀ c, c ∈ L → K (.v (.int .i64 c))) : Ix xs i K := by
  subst h; subst hn
  exact ix_map (List.getElem?_eq_getElem hi) (hk _ (List.getElem_mem hi))
theorem ix_strs {xs : List AV} {i : Nat} {K : AV → Prop} (L : List ByteArray) (n : Nat) (h : xs = L.map fun c => .v (.string c)) (hn : L.length = n) (hi : i < n) (hk : ∀ c, c ∈ L → K (.v (.string c))) : Ix xs i K := by
  subst h; subst hn
  exact ix_map (List.getElem?_eq_getElem hi) (hk _ (List.getElem_mem hi))
theorem ix_strAt {xs : List AV} {i : Nat} {K : AV → Prop} (L : List ByteArray) (n : Nat) (h : xs = L.map fun c => .v (.string c)) (hn : L.length = n) (hi : i < n) (hk : K (.v (.string (L.getD i default)))) : Ix xs i K := by
  subst h; subst hn
  exact ix_map (List.getElem?_eq_getElem hi) (by rw [List.getD_eq_getElem?_getD, List.getElem?_eq_getElem hi] at hk; exact hk)

def subL : List Pf := [⟨167772160, 24, by decide, by decide⟩, ⟨167772416, 24, by decide, by decide⟩, ⟨167772672, 25, by decide, by decide⟩, ⟨167772800, 26, by decide, by decide⟩, ⟨2886729728, 16, by decide, by decide⟩, ⟨3232237321, 32, by decide, by decide⟩]
def noPf : Pf := ⟨0, 0, by decide, by decide⟩
theorem ix_pfs {xs : List AV} {i : Nat} {K : AV → Prop} (L : List Pf) (n : Nat) (h : xs = L.map encP) (hn : L.length = n) (hi : i < n) (hk : K (encP (L.getD i noPf))) : Ix xs i K := by
  subst h; subst hn
  exact ix_map (List.getElem?_eq_getElem hi) (by rw [List.getD_eq_getElem?_getD, List.getElem?_eq_getElem hi] at hk; exact hk)
/-- nsggen.Mod of what is in range -/
theorem nMod (x : Nat) (n : Int) (hx : x < n) (hn2 : n ≤ 9223372036854775807) {K : AV → List Vm.Obj → Prop} (hK : K (.v (.int .i64 x)) []) : ACall Tryz.prog 39 [.v (.int .i64 x), .v (.int .i64 n)] [] K := by
  refine of37 rfl rfl ?_
  (conv => whnf)
  refine wr_u64 rfl (by omega) (by omega) ?_
  have m1 : (x : Int).tmod n = x := Int.tmod_eq_of_lt (by omega) (by omega)
  iterate 10 (all_goals ((conv => whnf); first | ((with_reducible refine sl_full ?ha ?_); (case ha => exact gA)) | ((with_reducible refine Ob.intro ?ha ?_); (case ha => exact gC)) | ((with_reducible refine br_lt ?_)) | ((with_reducible refine br_lf ?_)) | ((with_reducible refine br_pos ?ha ?_); (case ha => exact gB)) | ((with_reducible refine br_neg ?ha ?_); (case ha => exact gB)) | ((with_reducible refine br_t ?ha ?_); (case ha => with_reducible assumption)) | ((with_reducible refine br_f ?ha ?_); (case ha => with_reducible assumption)) | ((with_reducible refine br_dec (fun h => ?_) (fun h => ?_))) | ((with_reducible refine br_not ?_)) | ((with_reducible refine br_b (fun h => ?_) (fun h => ?_))) | ((with_reducible refine wr_i64 rfl ?ha ?hb ?_); (case ha => exact gB); (case hb => exact gB)) | ((with_reducible refine wr_u64 rfl ?ha ?hb ?_); (case ha => exact gB); (case hb => exact gB)) | ((with_reducible refine wr_u32 rfl ?ha ?hb ?_); (case ha => exact gB); (case hb => exact gB)) | ((with_reducible refine And.intro ?_ ?_)) | ((with_reducible refine True.intro)) | ((with_reducible refine Stp.go ?_)) | skip))
  rw [m1]
  exact hK
/-- Subnet -/
theorem cnSub (n : Nat) (hn : n < 6) {K : AV → List Vm.Obj → Prop} (hK : K (encP (subL.getD n noPf)) []) : ACall Tryz.prog 24 [.v (.int .i64 n)] [] K := by
  refine ofnSub rfl rfl ?_
  iterate 30 (all_goals ((conv => whnf); first | (with_reducible refine nMod n 6 (by omega) (by decide) ?_) | (with_reducible refine in_nat hn ?_) | (with_reducible refine ix_pfs subL 6 rfl rfl (by omega) ?_) | ((with_reducible refine sl_full ?ha ?_); (case ha => exact gA)) | ((with_reducible refine Ob.intro ?ha ?_); (case ha => exact gC)) | ((with_reducible refine br_lt ?_)) | ((with_reducible refine br_lf ?_)) | ((with_reducible refine br_pos ?ha ?_); (case ha => exact gB)) | ((with_reducible refine br_neg ?ha ?_); (case ha => exact gB)) | ((with_reducible refine br_t ?ha ?_); (case ha => with_reducible assumption)) | ((with_reducible refine br_f ?ha ?_); (case ha => with_reducible assumption)) | ((with_reducible refine br_dec (fun h => ?_) (fun h => ?_))) | ((with_reducible refine br_not ?_)) | ((with_reducible refine br_b (fun h => ?_) (fun h => ?_))) | ((with_reducible refine wr_i64 rfl ?ha ?hb ?_); (case ha => exact gB); (case hb => exact gB)) | ((with_reducible refine wr_u64 rfl ?ha ?hb ?_); (case ha => exact gB); (case hb => exact gB)) | ((with_reducible refine wr_u32 rfl ?ha ?hb ?_); (case ha => exact gB); (case hb => exact gB)) | ((with_reducible refine And.intro ?_ ?_)) | ((with_reducible refine True.intro)) | ((with_reducible refine Stp.go ?_)) | skip))
  rw [Nat.zero_add]
  exact hK

def rnL : List ByteArray := [⟨#[114, 49]⟩, ⟨#[114, 50]⟩, ⟨#[114, 51]⟩, ⟨#[114, 52]⟩, ⟨#[114, 53]⟩, ⟨#[114, 54]⟩]
def enL : List ByteArray := [⟨#[101, 49]⟩, ⟨#[101, 50]⟩, ⟨#[101, 51]⟩, ⟨#[101, 52]⟩, ⟨#[101, 53]⟩]
def clL : List ByteArray := [⟨#[]⟩, ⟨#[105, 112, 115]⟩, ⟨#[100, 108, 112]⟩]
def zoL : List ByteArray := [⟨#[108, 97, 110]⟩, ⟨#[100, 109, 122]⟩, ⟨#[110, 101, 116]⟩]
/-- the generated topologies -/
structure GDv (i : Nat) (d : Dv) : Prop where
  name : d.name = rnL.getD i default
  cap : d.cap ∈ [4096, 400, 60, 20, 5, 0]
  cls : d.cls ∈ clL
structure GLk (n : Nat) (l : Lk) : Prop where
  a0 : 0 ≤ l.a
  ab : l.a < l.b
  bn : l.b < n
  cost : l.cost ∈ [1, 2, 3, 1000]
theorem GLk.mono {n k : Nat} {l : Lk} (h : GLk n l) (hk : n ≤ k) : GLk k l := ⟨h.a0, h.ab, by have := h.bn; omega, h.cost⟩
structure GEd (n i : Nat) (e : Ed) : Prop where
  name : e.name = enL.getD i default
  d0 : 0 ≤ e.dev
  d1 : e.dev < n
  zone : e.zone ∈ zoL
  pf : e.pf = subL.getD i noPf
  pl : e.pl = false
def pool1 : Pf := ⟨168296448, 22, by decide, by decide⟩
def pool2 : Pf := ⟨167772672, 24, by decide, by decide⟩
structure GTop (t : Tp) : Prop where
  d1 : 1 ≤ t.devs.length
  d6 : t.devs.length ≤ 6
  dv : ∀ (i : Nat) d, t.devs[i]? = some d → GDv i d
  l9 : t.links.length ≤ 8
  lk : ∀ l, l ∈ t.links → GLk t.devs.length l
  e5 : t.edges.length ≤ 5
  ed : ∀ (i : Nat) e, t.edges[i]? = some e → GEd t.devs.length i e
  pools : t.pools = [] ∨ t.pools = [pool1] ∨ t.pools = [pool2] ∨ t.pools = [pool1, pool2]
  tol : t.tol ∈ [0, 1, 0, 1, 2]
theorem get_snoc {α : Type} {P : Nat → α → Prop} {l : List α} {x : α} (h : ∀ (i : Nat) y, l[i]? = some y → P i y) (hx : P l.length x) : ∀ (i : Nat) y, (l ++ [x])[i]? = some y → P i y := by
  intro i y hy
  rw [List.getElem?_append] at hy
  split at hy
  · exact h i y hy
  · rename_i hl
    have : i - l.length = 0 := by
      rcases Nat.lt_or_ge (i - l.length) 1 with h1 | h1
      · omega
      · rw [List.getElem?_eq_none (by simpa using h1)] at hy; cases hy
    rw [this] at hy
    simp at hy
    subst hy
    rw [show i = l.length by omega]
    exact hx

noncomputable abbrev boxX (d l e p : Nat) (tol : Int) : Vm.Obj := .box [.os 3 5 0 d, .os 4 3 0 l, .os 5 6 0 e, .os 6 2 0 p, .v (.int .i64 tol)]
noncomputable abbrev boxN : Vm.Obj := .box [.nils, .nils, .nils, .nils, .v (.int .i64 0)]
noncomputable abbrev hpX (raw : List Int) (pos : Nat) (d : List Dv) (l : List Lk) (e : List Ed) (p : List Pf) (tol : Int) : Hp :=
  [(0, tapeO raw pos), (1, boxN), (2, boxX d.length l.length e.length p.length tol), (3, .arr 5 (d.map encD)), (4, .arr 3 (l.map encL)), (5, .arr 6 (e.map encE)), (6, .arr 2 (p.map encP))]
/-- (*Tape).Topology -/
theorem cnTop (raw : List Int) (pos : Nat) (n0 : Nat) (hn0 : n0 ≤ 6) (hp : pos ≤ raw.length) (hr : raw.length ≤ 9223372036854775807) {K : AV → List Vm.Obj → Prop}
    (hK : ∀ (t : Tp) (pos' : Nat), GTop t → t.devs.length ≤ max n0 1 → pos' ≤ raw.length → K (.agg [.os 1 5 0 t.devs.length, .os 2 3 0 t.links.length, .os 3 6 0 t.edges.length, .os 4 2 0 t.pools.length, .v (.int .i64 t.tol)]) [tapeO raw pos', .arr 5 (t.devs.map encD), .arr 3 (t.links.map encL), .arr 6 (t.edges.map encE), .arr 2 (t.pools.map encP)]) :
    ACall Tryz.prog 9 [.op 0 0, .v (.int .i64 n0)] [tapeO raw pos] K := by
  refine ofnTop rfl rfl ?_
  iterate 20 (all_goals ((conv => whnf); first | (with_reducible refine nNext raw _ _ (by omega) (by assumption) hr fun m p1 hm hp1 => ?_) | ((with_reducible refine sl_full ?ha ?_); (case ha => exact gA)) | ((with_reducible refine Ob.intro ?ha ?_); (case ha => exact gC)) | ((with_reducible refine br_lt ?_)) | ((with_reducible refine br_lf ?_)) | ((with_reducible refine br_pos ?ha ?_); (case ha => exact gB)) | ((with_reducible refine br_neg ?ha ?_); (case ha => exact gB)) | ((with_reducible refine br_t ?ha ?_); (case ha => with_reducible assumption)) | ((with_reducible refine br_f ?ha ?_); (case ha => with_reducible assumption)) | ((with_reducible refine br_dec (fun h => ?_) (fun h => ?_))) | ((with_reducible refine br_not ?_)) | ((with_reducible refine br_b (fun h => ?_) (fun h => ?_))) | ((with_reducible refine wr_i64 rfl ?ha ?hb ?_); (case ha => exact gB); (case hb => exact gB)) | ((with_reducible refine wr_u64 rfl ?ha ?hb ?_); (case ha => exact gB); (case hb => exact gB)) | ((with_reducible refine wr_u32 rfl ?ha ?hb ?_); (case ha => exact gB); (case hb => exact gB)) | ((with_reducible refine And.intro ?_ ?_)) | ((with_reducible refine True.intro)) | ((with_reducible refine Stp.go ?_)) | skip))
  have hm5 : m ≤ 5 ∧ (m : Int) + 1 ≤ max n0 1 := by omega
  refine Lp.intro (Nat × List Dv × List Lk) (fun g => ⟨7, hpX raw g.1 g.2.1 g.2.2 [] [] 0, [(0, .op 0 0), (1, .v (.int .i64 (1 + (m : Int)))), (4, .op 1 0), (5, .op 2 0), (6, .v (.int .i64 g.2.1.length))]⟩)
    (fun g => g.1 ≤ raw.length ∧ g.2.1.length ≤ 1 + m ∧ (∀ (i : Nat) d, g.2.1[i]? = some d → GDv i d) ∧ g.2.2.length ≤ g.2.1.length - 1 ∧ ∀ l, l ∈ g.2.2 → GLk g.2.1.length l) (fun g => 1 + m - g.2.1.length) (p1, [], []) ?_ ?_ ?_
  · exact ⟨hp1, Nat.zero_le _, fun i d h => by simp at h, Nat.zero_le _, fun l h => by simp at h⟩
  · (refine Le.auto ?_; repeat' ((conv => whnf); first | with_reducible refine And.intro ?_ ?_ | with_reducible exact True.intro | rfl))
  · rintro ⟨p1, devs, links⟩ ⟨hp1, i1, i2, i3, i4⟩
    simp only at hp1 i1 i2 i3 i4 ⊢
    rcases Nat.lt_or_ge devs.length (1 + m) with hlt | hge
    · iterate 8 (all_goals ((conv => whnf); first | ((with_reducible refine sl_full ?ha ?_); (case ha => exact gA)) | ((with_reducible refine Ob.intro ?ha ?_); (case ha => exact gC)) | ((with_reducible refine br_lt ?_)) | ((with_reducible refine br_lf ?_)) | ((with_reducible refine br_pos ?ha ?_); (case ha => exact gB)) | ((with_reducible refine br_neg ?ha ?_); (case ha => exact gB)) | ((with_reducible refine br_t ?ha ?_); (case ha => with_reducible assumption)) | ((with_reducible refine br_f ?ha ?_); (case ha => with_reducible assumption)) | ((with_reducible refine br_dec (fun h => ?_) (fun h => ?_))) | ((with_reducible refine br_not ?_)) | ((with_reducible refine br_b (fun h => ?_) (fun h => ?_))) | ((with_reducible refine wr_i64 rfl ?ha ?hb ?_); (case ha => exact gB); (case hb => exact gB)) | ((with_reducible refine wr_u64 rfl ?ha ?hb ?_); (case ha => exact gB); (case hb => exact gB)) | ((with_reducible refine wr_u32 rfl ?ha ?hb ?_); (case ha => exact gB); (case hb => exact gB)) | ((with_reducible refine And.intro ?_ ?_)) | ((with_reducible refine True.intro)) | ((with_reducible refine Stp.go ?_)) | skip))
      refine Jn.intro (Nat × Int) (fun g => ⟨8, (7, .box [.v (.string (rnL.getD (0 + devs.length) default)), .v (.int .i64 g.2), .sb false, .sb false, .v (.string ⟨#[]⟩)]) :: hpX raw g.1 devs links [] [] 0, [(0, .op 0 0), (1, .v (.int .i64 (1 + (m : Int)))), (4, .op 1 0), (5, .op 2 0), (6, .v (.int .i64 devs.length)), (7, .op 7 0)]⟩)
        (fun g => g.1 ≤ raw.length ∧ g.2 ∈ [4096, 400, 60, 20, 5, 0]) ?_ ?_
      · (all_goals (repeat' ((conv => whnf); first | (with_reducible refine nNext raw _ _ (by omega) (by assumption) hr fun m1 p1 hm1 hp1 => ?_) | (with_reducible refine in_nat (by omega) ?_) | (with_reducible refine ix_strAt rnL 6 rfl rfl (by omega) ?_) | (with_reducible refine ix_ints [4096, 400, 60, 20, 5, 0] 6 rfl rfl (by omega) fun cap hcap => ?_) | ((with_reducible refine sl_full ?ha ?_); (case ha => exact gA)) | ((with_reducible refine Ob.intro ?ha ?_); (case ha => exact gC)) | ((with_reducible refine br_lt ?_)) | ((with_reducible refine br_lf ?_)) | ((with_reducible refine br_pos ?ha ?_); (case ha => exact gB)) | ((with_reducible refine br_neg ?ha ?_); (case ha => exact gB)) | ((with_reducible refine br_t ?ha ?_); (case ha => with_reducible assumption)) | ((with_reducible refine br_f ?ha ?_); (case ha => with_reducible assumption)) | ((with_reducible refine br_dec (fun h => ?_) (fun h => ?_))) | ((with_reducible refine br_not ?_)) | ((with_reducible refine br_b (fun h => ?_) (fun h => ?_))) | ((with_reducible refine wr_i64 rfl ?ha ?hb ?_); (case ha => exact gB); (case hb => exact gB)) | ((with_reducible refine wr_u64 rfl ?ha ?hb ?_); (case ha => exact gB); (case hb => exact gB)) | ((with_reducible refine wr_u32 rfl ?ha ?hb ?_); (case ha => exact gB); (case hb => exact gB)) | ((with_reducible refine And.intro ?_ ?_)) | ((with_reducible refine True.intro)) | ((with_reducible refine Stp.go ?_))))); (all_goals (conv => whnf))
        all_goals
          refine ⟨(p1, cap), ⟨hp1, hcap⟩, ?_⟩
          (refine Le.auto ?_; repeat' ((conv => whnf); first | with_reducible refine And.intro ?_ ?_ | with_reducible exact True.intro | rfl))
      · rintro ⟨p1, cap⟩ ⟨hp1, hcap⟩
        simp only at hp1 hcap ⊢
        (all_goals (repeat' ((conv => whnf); first | (with_reducible refine nNext raw _ _ (by omega) (by assumption) hr fun m1 p1 hm1 hp1 => ?_) | (with_reducible refine in_nat (by omega) ?_) | (with_reducible refine ix_strs clL 3 rfl rfl (by omega) fun cls hcls => ?_) | (with_reducible refine ix_ints [1, 2, 3, 1000] 4 rfl rfl (by omega) fun cost hcost => ?_) | ((with_reducible refine sl_full ?ha ?_); (case ha => exact gA)) | ((with_reducible refine Ob.intro ?ha ?_); (case ha => exact gC)) | ((with_reducible refine br_lt ?_)) | ((with_reducible refine br_lf ?_)) | ((with_reducible refine br_pos ?ha ?_); (case ha => exact gB)) | ((with_reducible refine br_neg ?ha ?_); (case ha => exact gB)) | ((with_reducible refine br_t ?ha ?_); (case ha => with_reducible assumption)) | ((with_reducible refine br_f ?ha ?_); (case ha => with_reducible assumption)) | ((with_reducible refine br_dec (fun h => ?_) (fun h => ?_))) | ((with_reducible refine br_not ?_)) | ((with_reducible refine br_b (fun h => ?_) (fun h => ?_))) | ((with_reducible refine wr_i64 rfl ?ha ?hb ?_); (case ha => exact gB); (case hb => exact gB)) | ((with_reducible refine wr_u64 rfl ?ha ?hb ?_); (case ha => exact gB); (case hb => exact gB)) | ((with_reducible refine wr_u32 rfl ?ha ?hb ?_); (case ha => exact gB); (case hb => exact gB)) | ((with_reducible refine And.intro ?_ ?_)) | ((with_reducible refine True.intro)) | ((with_reducible refine Stp.go ?_))))); (all_goals (conv => whnf))
        all_goals first
          | (rename_i x1 y1 z1 w1 x2 y2 z2 w2 x3 y3 z3 w3 x4 y4 z4 w4
             refine ⟨(p1, devs ++ [⟨rnL.getD (0 + devs.length) default, cap, decide ((x1 : Int) = 1), decide ((x2 : Int) = 1), cls⟩], links ++ [⟨x4, devs.length, cost⟩]), ⟨hp1, ?_, ?_, ?_, ?_⟩, ?_, ?_⟩
             · simp only [List.length_append, List.length_cons, List.length_nil]; omega
             · exact get_snoc i2 ⟨by rw [Nat.zero_add], hcap, hcls⟩
             · simp only [List.length_append, List.length_cons, List.length_nil]; omega
             · intro l hl
               simp only [List.length_append, List.length_cons, List.length_nil]
               rcases List.mem_append.1 hl with hl | hl
               · exact (i4 l hl).mono (by omega)
               · simp only [List.mem_singleton] at hl
                 subst hl
                 exact ⟨by simp only; omega, by simp only; omega, by simp only; omega, hcost⟩
             · simp only [List.length_append, List.length_cons, List.length_nil]; omega
             · simp only [hpX, List.map_append, List.length_append, List.map_cons, List.map_nil, List.length_cons, List.length_nil]
               (refine Le.auto ?_; repeat' ((conv => whnf); first | with_reducible refine And.intro ?_ ?_ | with_reducible exact True.intro | rfl)))
          | (rename_i x1 y1 z1 w1 x2 y2 z2 w2
             refine ⟨(p1, devs ++ [⟨rnL.getD (0 + devs.length) default, cap, decide ((x1 : Int) = 1), decide ((x2 : Int) = 1), cls⟩], links), ⟨hp1, ?_, ?_, ?_, ?_⟩, ?_, ?_⟩
             · simp only [List.length_append, List.length_cons, List.length_nil]; omega
             · exact get_snoc i2 ⟨by rw [Nat.zero_add], hcap, hcls⟩
             · simp only [List.length_append, List.length_cons, List.length_nil]; omega
             · intro l hl
               simp only [List.length_append, List.length_cons, List.length_nil]
               exact (i4 l hl).mono (by omega)
             · simp only [List.length_append, List.length_cons, List.length_nil]; omega
             · simp only [hpX, List.map_append, List.length_append, List.map_cons, List.map_nil, List.length_cons, List.length_nil]
               (refine Le.auto ?_; repeat' ((conv => whnf); first | with_reducible refine And.intro ?_ ?_ | with_reducible exact True.intro | rfl)))
    · have hD : devs.length = 1 + m := by omega
      (all_goals (repeat' ((conv => whnf); first | ((with_reducible refine sl_full ?ha ?_); (case ha => exact gA)) | ((with_reducible refine Ob.intro ?ha ?_); (case ha => exact gC)) | ((with_reducible refine br_lt ?_)) | ((with_reducible refine br_lf ?_)) | ((with_reducible refine br_pos ?ha ?_); (case ha => exact gB)) | ((with_reducible refine br_neg ?ha ?_); (case ha => exact gB)) | ((with_reducible refine br_t ?ha ?_); (case ha => with_reducible assumption)) | ((with_reducible refine br_f ?ha ?_); (case ha => with_reducible assumption)) | ((with_reducible refine br_dec (fun h => ?_) (fun h => ?_))) | ((with_reducible refine br_not ?_)) | ((with_reducible refine br_b (fun h => ?_) (fun h => ?_))) | ((with_reducible refine wr_i64 rfl ?ha ?hb ?_); (case ha => exact gB); (case hb => exact gB)) | ((with_reducible refine wr_u64 rfl ?ha ?hb ?_); (case ha => exact gB); (case hb => exact gB)) | ((with_reducible refine wr_u32 rfl ?ha ?hb ?_); (case ha => exact gB); (case hb => exact gB)) | ((with_reducible refine And.intro ?_ ?_)) | ((with_reducible refine True.intro)) | ((with_reducible refine Stp.go ?_))))); (all_goals (conv => whnf))
      refine Jn.intro (Nat × List Lk) (fun g => ⟨7, hpX raw g.1 devs g.2 [] [] 0, [(0, .op 0 0), (1, .v (.int .i64 (1 + (m : Int)))), (4, .op 1 0), (5, .op 2 0)]⟩) (fun g => g.1 ≤ raw.length ∧ g.2.length ≤ 8 ∧ ∀ l, l ∈ g.2 → GLk devs.length l) ?_ ?_
      · (all_goals (repeat' ((conv => whnf); first | (with_reducible refine nNext raw _ _ (by omega) (by assumption) hr fun m2 p2 hm2 hp2 => ?_) | ((with_reducible refine sl_full ?ha ?_); (case ha => exact gA)) | ((with_reducible refine Ob.intro ?ha ?_); (case ha => exact gC)) | ((with_reducible refine br_lt ?_)) | ((with_reducible refine br_lf ?_)) | ((with_reducible refine br_pos ?ha ?_); (case ha => exact gB)) | ((with_reducible refine br_neg ?ha ?_); (case ha => exact gB)) | ((with_reducible refine br_t ?ha ?_); (case ha => with_reducible assumption)) | ((with_reducible refine br_f ?ha ?_); (case ha => with_reducible assumption)) | ((with_reducible refine br_dec (fun h => ?_) (fun h => ?_))) | ((with_reducible refine br_not ?_)) | ((with_reducible refine br_b (fun h => ?_) (fun h => ?_))) | ((with_reducible refine wr_i64 rfl ?ha ?hb ?_); (case ha => exact gB); (case hb => exact gB)) | ((with_reducible refine wr_u64 rfl ?ha ?hb ?_); (case ha => exact gB); (case hb => exact gB)) | ((with_reducible refine wr_u32 rfl ?ha ?hb ?_); (case ha => exact gB); (case hb => exact gB)) | ((with_reducible refine And.intro ?_ ?_)) | ((with_reducible refine True.intro)) | ((with_reducible refine Stp.go ?_))))); (all_goals (conv => whnf))
        have hm2' : m2 ≤ 3 := by omega
        refine Lp.intro (Nat × Nat × List Lk) (fun g => ⟨7, hpX raw g.1 devs g.2.2 [] [] 0, [(0, .op 0 0), (1, .v (.int .i64 (1 + (m : Int)))), (4, .op 1 0), (5, .op 2 0), (8, .v (.int .i64 g.2.1))]⟩)
          (fun g => g.1 ≤ raw.length ∧ g.2.1 ≤ 3 ∧ g.2.2.length + g.2.1 ≤ 8 ∧ ∀ l, l ∈ g.2.2 → GLk devs.length l) (fun g => g.2.1) (p2, m2, links) ?_ ?_ ?_
        · exact ⟨hp2, hm2', by simp only; omega, i4⟩
        · (refine Le.auto ?_; repeat' ((conv => whnf); first | with_reducible refine And.intro ?_ ?_ | with_reducible exact True.intro | rfl))
        rintro ⟨p2, i, links⟩ ⟨hp2, k1, k2, k3⟩
        simp only at hp2 k1 k2 k3 ⊢
        rcases Nat.lt_or_ge 0 i with hi | hi
        · obtain ⟨i', rfl⟩ : ∃ i', i = i' + 1 := ⟨i - 1, by omega⟩
          have hi1 : ((i' + 1 : Nat) : Int) - 1 = (i' : Int) := by omega
          (all_goals (repeat' ((conv => whnf); first | (with_reducible refine wr_i64 hi1 (by omega) (by omega) ?_) | (with_reducible refine nNext raw _ _ (by omega) (by assumption) hr fun m1 p1 hm1 hp1 => ?_) | (with_reducible refine in_nat (by omega) ?_) | (with_reducible refine ix_ints [1, 2, 3, 1000] 4 rfl rfl (by omega) fun cost hcost => ?_) | ((with_reducible refine sl_full ?ha ?_); (case ha => exact gA)) | ((with_reducible refine Ob.intro ?ha ?_); (case ha => exact gC)) | ((with_reducible refine br_lt ?_)) | ((with_reducible refine br_lf ?_)) | ((with_reducible refine br_pos ?ha ?_); (case ha => exact gB)) | ((with_reducible refine br_neg ?ha ?_); (case ha => exact gB)) | ((with_reducible refine br_t ?ha ?_); (case ha => with_reducible assumption)) | ((with_reducible refine br_f ?ha ?_); (case ha => with_reducible assumption)) | ((with_reducible refine br_dec (fun h => ?_) (fun h => ?_))) | ((with_reducible refine br_not ?_)) | ((with_reducible refine br_b (fun h => ?_) (fun h => ?_))) | ((with_reducible refine wr_i64 rfl ?ha ?hb ?_); (case ha => exact gB); (case hb => exact gB)) | ((with_reducible refine wr_u64 rfl ?ha ?hb ?_); (case ha => exact gB); (case hb => exact gB)) | ((with_reducible refine wr_u32 rfl ?ha ?hb ?_); (case ha => exact gB); (case hb => exact gB)) | ((with_reducible refine And.intro ?_ ?_)) | ((with_reducible refine True.intro)) | ((with_reducible refine Stp.go ?_))))); (all_goals (conv => whnf))
          all_goals first
            | (rename_i x1 y1 z1 w1 x2 y2 z2 w2
               refine ⟨(p1, i', links ++ [⟨x2, 1 + (x1 : Int), cost⟩]), ⟨hp1, by simp only; omega, ?_, ?_⟩, by simp only; omega, ?_⟩
               · simp only [List.length_append, List.length_cons, List.length_nil]; omega
               · intro l hl
                 rcases List.mem_append.1 hl with hl | hl
                 · exact k3 l hl
                 · simp only [List.mem_singleton] at hl
                   subst hl
                   exact ⟨by simp only; omega, by simp only; omega, by simp only; omega, hcost⟩
               · simp only [hpX, List.map_append, List.length_append, List.map_cons, List.map_nil, List.length_cons, List.length_nil]
                 (refine Le.auto ?_; repeat' ((conv => whnf); first | with_reducible refine And.intro ?_ ?_ | with_reducible exact True.intro | rfl)))
            | (refine ⟨(p2, links), ⟨hp2, by simp only; omega, k3⟩, ?_⟩
               (refine Le.auto ?_; repeat' ((conv => whnf); first | with_reducible refine And.intro ?_ ?_ | with_reducible exact True.intro | rfl)))
        · have hi0 : i = 0 := by omega
          subst hi0
          (all_goals (repeat' ((conv => whnf); first | ((with_reducible refine sl_full ?ha ?_); (case ha => exact gA)) | ((with_reducible refine Ob.intro ?ha ?_); (case ha => exact gC)) | ((with_reducible refine br_lt ?_)) | ((with_reducible refine br_lf ?_)) | ((with_reducible refine br_pos ?ha ?_); (case ha => exact gB)) | ((with_reducible refine br_neg ?ha ?_); (case ha => exact gB)) | ((with_reducible refine br_t ?ha ?_); (case ha => with_reducible assumption)) | ((with_reducible refine br_f ?ha ?_); (case ha => with_reducible assumption)) | ((with_reducible refine br_dec (fun h => ?_) (fun h => ?_))) | ((with_reducible refine br_not ?_)) | ((with_reducible refine br_b (fun h => ?_) (fun h => ?_))) | ((with_reducible refine wr_i64 rfl ?ha ?hb ?_); (case ha => exact gB); (case hb => exact gB)) | ((with_reducible refine wr_u64 rfl ?ha ?hb ?_); (case ha => exact gB); (case hb => exact gB)) | ((with_reducible refine wr_u32 rfl ?ha ?hb ?_); (case ha => exact gB); (case hb => exact gB)) | ((with_reducible refine And.intro ?_ ?_)) | ((with_reducible refine True.intro)) | ((with_reducible refine Stp.go ?_))))); (all_goals (conv => whnf))
          refine ⟨(p2, links), ⟨hp2, by simp only; omega, k3⟩, ?_⟩
          (refine Le.auto ?_; repeat' ((conv => whnf); first | with_reducible refine And.intro ?_ ?_ | with_reducible exact True.intro | rfl))
      rintro ⟨p2, links⟩ ⟨hp2, k2, k3⟩
      simp only at hp2 k2 k3 ⊢
      (all_goals (repeat' ((conv => whnf); first | (with_reducible refine nNext raw _ _ (by omega) (by assumption) hr fun m3 p3 hm3 hp3 => ?_) | (with_reducible refine in_nat (by omega) ?_) | (with_reducible refine ix_ints [2, 3, 4, 1, 5, 0] 6 rfl rfl (by omega) fun cnt hcnt => ?_) | ((with_reducible refine sl_full ?ha ?_); (case ha => exact gA)) | ((with_reducible refine Ob.intro ?ha ?_); (case ha => exact gC)) | ((with_reducible refine br_lt ?_)) | ((with_reducible refine br_lf ?_)) | ((with_reducible refine br_pos ?ha ?_); (case ha => exact gB)) | ((with_reducible refine br_neg ?ha ?_); (case ha => exact gB)) | ((with_reducible refine br_t ?ha ?_); (case ha => with_reducible assumption)) | ((with_reducible refine br_f ?ha ?_); (case ha => with_reducible assumption)) | ((with_reducible refine br_dec (fun h => ?_) (fun h => ?_))) | ((with_reducible refine br_not ?_)) | ((with_reducible refine br_b (fun h => ?_) (fun h => ?_))) | ((with_reducible refine wr_i64 rfl ?ha ?hb ?_); (case ha => exact gB); (case hb => exact gB)) | ((with_reducible refine wr_u64 rfl ?ha ?hb ?_); (case ha => exact gB); (case hb => exact gB)) | ((with_reducible refine wr_u32 rfl ?ha ?hb ?_); (case ha => exact gB); (case hb => exact gB)) | ((with_reducible refine And.intro ?_ ?_)) | ((with_reducible refine True.intro)) | ((with_reducible refine Stp.go ?_))))); (all_goals (conv => whnf))
      have hcnt5 : 0 ≤ cnt ∧ cnt ≤ 5 := by
        simp only [List.mem_cons, List.not_mem_nil, or_false] at hcnt
        omega
      refine Lp.intro (Nat × List Ed) (fun g => ⟨7, hpX raw g.1 devs links g.2 [] 0, [(0, .op 0 0), (1, .v (.int .i64 (1 + (m : Int)))), (4, .op 1 0), (5, .op 2 0), (10, .v (.int .i64 cnt)), (11, .v (.int .i64 g.2.length))]⟩)
        (fun g => g.1 ≤ raw.length ∧ (g.2.length : Int) ≤ cnt ∧ ∀ (i : Nat) e, g.2[i]? = some e → GEd devs.length i e) (fun g => 5 - g.2.length) (p3, []) ?_ ?_ ?_
      · exact ⟨hp3, by simp only [List.length_nil]; omega, fun i e h => by simp at h⟩
      · (refine Le.auto ?_; repeat' ((conv => whnf); first | with_reducible refine And.intro ?_ ?_ | with_reducible exact True.intro | rfl))
      rintro ⟨p3, edges⟩ ⟨hp3, j1, j2⟩
      simp only at hp3 j1 j2 ⊢
      rcases (by omega : (edges.length : Int) < cnt ∨ cnt ≤ (edges.length : Int)) with hlt | hge
      · (all_goals (repeat' ((conv => whnf); first | ((with_reducible refine sl_full ?ha ?_); (case ha => exact gA)) | ((with_reducible refine Ob.intro ?ha ?_); (case ha => exact gC)) | ((with_reducible refine br_lt ?_)) | ((with_reducible refine br_lf ?_)) | ((with_reducible refine br_pos ?ha ?_); (case ha => exact gB)) | ((with_reducible refine br_neg ?ha ?_); (case ha => exact gB)) | ((with_reducible refine br_t ?ha ?_); (case ha => with_reducible assumption)) | ((with_reducible refine br_f ?ha ?_); (case ha => with_reducible assumption)) | ((with_reducible refine br_dec (fun h => ?_) (fun h => ?_))) | ((with_reducible refine br_not ?_)) | ((with_reducible refine br_b (fun h => ?_) (fun h => ?_))) | ((with_reducible refine wr_i64 rfl ?ha ?hb ?_); (case ha => exact gB); (case hb => exact gB)) | ((with_reducible refine wr_u64 rfl ?ha ?hb ?_); (case ha => exact gB); (case hb => exact gB)) | ((with_reducible refine wr_u32 rfl ?ha ?hb ?_); (case ha => exact gB); (case hb => exact gB)) | ((with_reducible refine And.intro ?_ ?_)) | ((with_reducible refine True.intro)) | ((with_reducible refine Stp.go ?_))))); (all_goals (conv => whnf))
        refine Jn.intro (Nat × Ed) (fun g => ⟨7, hpX raw g.1 devs links (edges ++ [g.2]) [] 0, [(0, .op 0 0), (1, .v (.int .i64 (1 + (m : Int)))), (4, .op 1 0), (5, .op 2 0), (10, .v (.int .i64 cnt)), (11, .v (.int .i64 edges.length))]⟩)
          (fun g => g.1 ≤ raw.length ∧ GEd devs.length edges.length g.2) ?_ ?_
        · (all_goals (repeat' ((conv => whnf); first | (with_reducible refine nNext raw _ _ (by omega) (by assumption) hr fun m1 p1 hm1 hp1 => ?_) | (with_reducible refine in_nat (by omega) ?_) | (with_reducible refine ix_strAt enL 5 rfl rfl (by omega) ?_) | (with_reducible refine ix_strs zoL 3 rfl rfl (by omega) fun zone hzone => ?_) | (with_reducible refine cnSub _ (by omega) ?_) | ((with_reducible refine sl_full ?ha ?_); (case ha => exact gA)) | ((with_reducible refine Ob.intro ?ha ?_); (case ha => exact gC)) | ((with_reducible refine br_lt ?_)) | ((with_reducible refine br_lf ?_)) | ((with_reducible refine br_pos ?ha ?_); (case ha => exact gB)) | ((with_reducible refine br_neg ?ha ?_); (case ha => exact gB)) | ((with_reducible refine br_t ?ha ?_); (case ha => with_reducible assumption)) | ((with_reducible refine br_f ?ha ?_); (case ha => with_reducible assumption)) | ((with_reducible refine br_dec (fun h => ?_) (fun h => ?_))) | ((with_reducible refine br_not ?_)) | ((with_reducible refine br_b (fun h => ?_) (fun h => ?_))) | ((with_reducible refine wr_i64 rfl ?ha ?hb ?_); (case ha => exact gB); (case hb => exact gB)) | ((with_reducible refine wr_u64 rfl ?ha ?hb ?_); (case ha => exact gB); (case hb => exact gB)) | ((with_reducible refine wr_u32 rfl ?ha ?hb ?_); (case ha => exact gB); (case hb => exact gB)) | ((with_reducible refine And.intro ?_ ?_)) | ((with_reducible refine True.intro)) | ((with_reducible refine Stp.go ?_))))); (all_goals (conv => whnf))
          all_goals
            rename_i x1 y1 z1 w1
            refine ⟨(p1, ⟨enL.getD (0 + edges.length) default, x1, zone, subL.getD edges.length noPf, false⟩), ⟨hp1, ⟨by rw [Nat.zero_add], by simp only; omega, by simp only; omega, hzone, rfl, rfl⟩⟩, ?_⟩
            simp only [hpX, List.map_append, List.length_append, List.map_cons, List.map_nil, List.length_cons, List.length_nil]
            (refine Le.auto ?_; repeat' ((conv => whnf); first | with_reducible refine And.intro ?_ ?_ | with_reducible exact True.intro | rfl))
        · rintro ⟨p4, e⟩ ⟨hp4, he⟩
          simp only at hp4 he ⊢
          (all_goals (repeat' ((conv => whnf); first | ((with_reducible refine sl_full ?ha ?_); (case ha => exact gA)) | ((with_reducible refine Ob.intro ?ha ?_); (case ha => exact gC)) | ((with_reducible refine br_lt ?_)) | ((with_reducible refine br_lf ?_)) | ((with_reducible refine br_pos ?ha ?_); (case ha => exact gB)) | ((with_reducible refine br_neg ?ha ?_); (case ha => exact gB)) | ((with_reducible refine br_t ?ha ?_); (case ha => with_reducible assumption)) | ((with_reducible refine br_f ?ha ?_); (case ha => with_reducible assumption)) | ((with_reducible refine br_dec (fun h => ?_) (fun h => ?_))) | ((with_reducible refine br_not ?_)) | ((with_reducible refine br_b (fun h => ?_) (fun h => ?_))) | ((with_reducible refine wr_i64 rfl ?ha ?hb ?_); (case ha => exact gB); (case hb => exact gB)) | ((with_reducible refine wr_u64 rfl ?ha ?hb ?_); (case ha => exact gB); (case hb => exact gB)) | ((with_reducible refine wr_u32 rfl ?ha ?hb ?_); (case ha => exact gB); (case hb => exact gB)) | ((with_reducible refine And.intro ?_ ?_)) | ((with_reducible refine True.intro)) | ((with_reducible refine Stp.go ?_))))); (all_goals (conv => whnf))
          refine ⟨(p4, edges ++ [e]), ⟨hp4, ?_, get_snoc j2 he⟩, ?_, ?_⟩
          · simp only [List.length_append, List.length_cons, List.length_nil]; omega
          · simp only [List.length_append, List.length_cons, List.length_nil]; omega
          · simp only [List.length_append, List.length_cons, List.length_nil]
            (refine Le.auto ?_; repeat' ((conv => whnf); first | with_reducible refine And.intro ?_ ?_ | with_reducible exact True.intro | rfl))
      · (all_goals (repeat' ((conv => whnf); first | (with_reducible refine nNext raw _ _ (by omega) (by assumption) hr fun m1 p1 hm1 hp1 => ?_) | (with_reducible refine in_nat (by omega) ?_) | (with_reducible refine ix_ints [0, 1, 0, 1, 2] 5 rfl rfl (by omega) fun tol htol => ?_) | ((with_reducible refine sl_full ?ha ?_); (case ha => exact gA)) | ((with_reducible refine Ob.intro ?ha ?_); (case ha => exact gC)) | ((with_reducible refine br_lt ?_)) | ((with_reducible refine br_lf ?_)) | ((with_reducible refine br_pos ?ha ?_); (case ha => exact gB)) | ((with_reducible refine br_neg ?ha ?_); (case ha => exact gB)) | ((with_reducible refine br_t ?ha ?_); (case ha => with_reducible assumption)) | ((with_reducible refine br_f ?ha ?_); (case ha => with_reducible assumption)) | ((with_reducible refine br_dec (fun h => ?_) (fun h => ?_))) | ((with_reducible refine br_not ?_)) | ((with_reducible refine br_b (fun h => ?_) (fun h => ?_))) | ((with_reducible refine wr_i64 rfl ?ha ?hb ?_); (case ha => exact gB); (case hb => exact gB)) | ((with_reducible refine wr_u64 rfl ?ha ?hb ?_); (case ha => exact gB); (case hb => exact gB)) | ((with_reducible refine wr_u32 rfl ?ha ?hb ?_); (case ha => exact gB); (case hb => exact gB)) | ((with_reducible refine And.intro ?_ ?_)) | ((with_reducible refine True.intro)) | ((with_reducible refine Stp.go ?_))))); (all_goals (conv => whnf))
        all_goals
          have he5 : edges.length ≤ 5 := by omega
          have gt : ∀ pools, (pools = [] ∨ pools = [pool1] ∨ pools = [pool2] ∨ pools = [pool1, pool2]) → GTop ⟨devs, links, edges, pools, tol⟩ := fun pools h => ⟨by simp only; omega, by simp only; omega, i2, k2, k3, he5, j2, h, htol⟩
          have hdm : devs.length ≤ max n0 1 := by omega
        · exact hK ⟨devs, links, edges, [pool1, pool2], tol⟩ p1 (gt _ (.inr (.inr (.inr rfl)))) hdm hp1
        · exact hK ⟨devs, links, edges, [pool1], tol⟩ p1 (gt _ (.inr (.inl rfl))) hdm hp1
        · exact hK ⟨devs, links, edges, [pool2], tol⟩ p1 (gt _ (.inr (.inr (.inl rfl)))) hdm hp1
        · exact hK ⟨devs, links, edges, [], tol⟩ p1 (gt _ (.inl rfl)) hdm hp1
end Go.Proofs.YtgcplfplbcpemaaGreat

set_option linter.unusedVariables false
set_option linter.unusedSimpArgs false
set_option maxRecDepth 20000
set_option maxHeartbeats 4000000
namespace Go.Proofs.YtgcplfplbcpemaaGreat
open Go Go.Vm

structure GPe (n i : Nat) (e : Ed) : Prop where
  name : e.name = enL.getD i default
  d0 : 0 ≤ e.dev
  d1 : e.dev < n
  zone : e.zone ∈ zoL
  pf : (e.pl = false ∧ e.pf = subL.getD i noPf) ∨ (e.pl = true ∧ e.pf.addr = 0 ∧ e.pf.bits ∈ [24, 23, 25, 22, 26, 32, 30])
structure GPla (t : Tp) : Prop where
  d1 : 1 ≤ t.devs.length
  d6 : t.devs.length ≤ 6
  dv : ∀ (i : Nat) d, t.devs[i]? = some d → GDv i d
  l9 : t.links.length ≤ 8
  lk : ∀ l, l ∈ t.links → GLk t.devs.length l
  e5 : t.edges.length ≤ 5
  ed : ∀ (i : Nat) e, t.edges[i]? = some e → GPe t.devs.length i e
  pools : t.pools = [pool1] ∨ t.pools = [pool2] ∨ t.pools = [pool1, pool2]
  tol : t.tol ∈ [0, 1, 0, 1, 2]
/-- (*Tape).Planned -/
theorem cnPla (raw : List Int) (pos : Nat) (n0 : Nat) (hn0 : n0 ≤ 6) (hp : pos ≤ raw.length) (hr : raw.length ≤ 9223372036854775807) {K : AV → List Vm.Obj → Prop}
    (hK : ∀ (t : Tp) (pos' : Nat), GPla t → t.devs.length ≤ max n0 1 → pos' ≤ raw.length → K (encT t) [tapeO raw pos']) :
    ACall Tryz.prog 6 [.op 0 0, .v (.int .i64 n0)] [tapeO raw pos] K := by
  refine ofnPla rfl rfl ?_
  (all_goals (repeat' ((conv => whnf); first | (with_reducible refine cnTop raw pos n0 hn0 hp hr fun t p1 ht hd hp1 => ?_) | ((with_reducible refine sl_full ?ha ?_); (case ha => exact gA)) | ((with_reducible refine Ob.intro ?ha ?_); (case ha => exact gC)) | ((with_reducible refine br_lt ?_)) | ((with_reducible refine br_lf ?_)) | ((with_reducible refine br_pos ?ha ?_); (case ha => exact gB)) | ((with_reducible refine br_neg ?ha ?_); (case ha => exact gB)) | ((with_reducible refine br_t ?ha ?_); (case ha => with_reducible assumption)) | ((with_reducible refine br_f ?ha ?_); (case ha => with_reducible assumption)) | ((with_reducible refine br_dec (fun h => ?_) (fun h => ?_))) | ((with_reducible refine br_not ?_)) | ((with_reducible refine br_b (fun h => ?_) (fun h => ?_))) | ((with_reducible refine wr_i64 rfl ?ha ?hb ?_); (case ha => exact gB); (case hb => exact gB)) | ((with_reducible refine wr_u64 rfl ?ha ?hb ?_); (case ha => exact gB); (case hb => exact gB)) | ((with_reducible refine wr_u32 rfl ?ha ?hb ?_); (case ha => exact gB); (case hb => exact gB)) | ((with_reducible refine And.intro ?_ ?_)) | ((with_reducible refine True.intro)) | ((with_reducible refine Stp.go ?_))))); (all_goals (conv => whnf))
  have hpl : t.pools.length ≤ 2 := by rcases ht.pools with h | h | h | h <;> rw [h] <;> decide
  have he5 := ht.e5
  refine Jn.intro (List Pf) (fun g => ⟨7, hpX raw p1 t.devs t.links t.edges g t.tol, [(0, .op 0 0), (4, .op 1 0), (5, .op 2 0)]⟩)
    (fun g => g = [pool1] ∨ g = [pool2] ∨ g = [pool1, pool2]) ?_ ?_
  · (all_goals (repeat' ((conv => whnf); first | ((with_reducible refine sl_full ?ha ?_); (case ha => exact gA)) | ((with_reducible refine Ob.intro ?ha ?_); (case ha => exact gC)) | ((with_reducible refine br_lt ?_)) | ((with_reducible refine br_lf ?_)) | ((with_reducible refine br_pos ?ha ?_); (case ha => exact gB)) | ((with_reducible refine br_neg ?ha ?_); (case ha => exact gB)) | ((with_reducible refine br_t ?ha ?_); (case ha => with_reducible assumption)) | ((with_reducible refine br_f ?ha ?_); (case ha => with_reducible assumption)) | ((with_reducible refine br_dec (fun h => ?_) (fun h => ?_))) | ((with_reducible refine br_not ?_)) | ((with_reducible refine br_b (fun h => ?_) (fun h => ?_))) | ((with_reducible refine wr_i64 rfl ?ha ?hb ?_); (case ha => exact gB); (case hb => exact gB)) | ((with_reducible refine wr_u64 rfl ?ha ?hb ?_); (case ha => exact gB); (case hb => exact gB)) | ((with_reducible refine wr_u32 rfl ?ha ?hb ?_); (case ha => exact gB); (case hb => exact gB)) | ((with_reducible refine And.intro ?_ ?_)) | ((with_reducible refine True.intro)) | ((with_reducible refine Stp.go ?_))))); (all_goals (conv => whnf))
    · have h0 : t.pools = [] := List.eq_nil_of_length_eq_zero (by omega)
      refine ⟨[pool1], .inl rfl, ?_⟩
      rw [h0]
      (refine Le.auto ?_; repeat' ((conv => whnf); first | with_reducible refine And.intro ?_ ?_ | with_reducible exact True.intro | rfl))
    · refine ⟨t.pools, ?_, ?_⟩
      · rcases ht.pools with h1 | h1 | h1 | h1
        · rw [h1] at h; exact absurd rfl h
        · exact .inl h1
        · exact .inr (.inl h1)
        · exact .inr (.inr h1)
      · (refine Le.auto ?_; repeat' ((conv => whnf); first | with_reducible refine And.intro ?_ ?_ | with_reducible exact True.intro | rfl))
  rintro pools hpools
  (all_goals (repeat' ((conv => whnf); first | ((with_reducible refine sl_full ?ha ?_); (case ha => exact gA)) | ((with_reducible refine Ob.intro ?ha ?_); (case ha => exact gC)) | ((with_reducible refine br_lt ?_)) | ((with_reducible refine br_lf ?_)) | ((with_reducible refine br_pos ?ha ?_); (case ha => exact gB)) | ((with_reducible refine br_neg ?ha ?_); (case ha => exact gB)) | ((with_reducible refine br_t ?ha ?_); (case ha => with_reducible assumption)) | ((with_reducible refine br_f ?ha ?_); (case ha => with_reducible assumption)) | ((with_reducible refine br_dec (fun h => ?_) (fun h => ?_))) | ((with_reducible refine br_not ?_)) | ((with_reducible refine br_b (fun h => ?_) (fun h => ?_))) | ((with_reducible refine wr_i64 rfl ?ha ?hb ?_); (case ha => exact gB); (case hb => exact gB)) | ((with_reducible refine wr_u64 rfl ?ha ?hb ?_); (case ha => exact gB); (case hb => exact gB)) | ((with_reducible refine wr_u32 rfl ?ha ?hb ?_); (case ha => exact gB); (case hb => exact gB)) | ((with_reducible refine And.intro ?_ ?_)) | ((with_reducible refine True.intro)) | ((with_reducible refine Stp.go ?_))))); (all_goals (conv => whnf))
  refine Lp.intro (Nat × Nat × List Ed) (fun g => ⟨7, hpX raw g.1 t.devs t.links g.2.2 pools t.tol, [(0, .op 0 0), (4, .op 1 0), (5, .op 2 0), (6, .v (.int .i64 g.2.1))]⟩)
    (fun g => g.1 ≤ raw.length ∧ g.2.1 ≤ g.2.2.length ∧ g.2.2.length = t.edges.length ∧ ∀ (i : Nat) e, g.2.2[i]? = some e → GPe t.devs.length i e) (fun g => t.edges.length - g.2.1) (p1, 0, t.edges) ?_ ?_ ?_
  · exact ⟨hp1, Nat.zero_le _, rfl, fun i e hi => by
      obtain ⟨g1, g2, g3, g4, g5, g6⟩ := ht.ed i e hi
      exact ⟨g1, g2, g3, g4, .inl ⟨g6, g5⟩⟩⟩
  · (refine Le.auto ?_; repeat' ((conv => whnf); first | with_reducible refine And.intro ?_ ?_ | with_reducible exact True.intro | rfl))
  rintro ⟨p2, i, es⟩ ⟨hp2, i1, i2, i3⟩
  simp only at hp2 i1 i2 i3 ⊢
  rcases Nat.lt_or_ge i es.length with hlt | hge
  · obtain ⟨ed, he⟩ : ∃ e, es[i]? = some e := ⟨_, List.getElem?_eq_getElem hlt⟩
    have he0 : es[0 + i]? = some ed := by rw [Nat.zero_add]; exact he
    have hset : 0 + i < (es.map encE).length := by rw [List.length_map]; omega
    have hilt : i < es.length := hlt
    (all_goals (repeat' ((conv => whnf); first | ((with_reducible refine sl_full ?ha ?_); (case ha => exact gA)) | ((with_reducible refine Ob.intro ?ha ?_); (case ha => exact gC)) | ((with_reducible refine br_lt ?_)) | ((with_reducible refine br_lf ?_)) | ((with_reducible refine br_pos ?ha ?_); (case ha => exact gB)) | ((with_reducible refine br_neg ?ha ?_); (case ha => exact gB)) | ((with_reducible refine br_t ?ha ?_); (case ha => with_reducible assumption)) | ((with_reducible refine br_f ?ha ?_); (case ha => with_reducible assumption)) | ((with_reducible refine br_dec (fun h => ?_) (fun h => ?_))) | ((with_reducible refine br_not ?_)) | ((with_reducible refine br_b (fun h => ?_) (fun h => ?_))) | ((with_reducible refine wr_i64 rfl ?ha ?hb ?_); (case ha => exact gB); (case hb => exact gB)) | ((with_reducible refine wr_u64 rfl ?ha ?hb ?_); (case ha => exact gB); (case hb => exact gB)) | ((with_reducible refine wr_u32 rfl ?ha ?hb ?_); (case ha => exact gB); (case hb => exact gB)) | ((with_reducible refine And.intro ?_ ?_)) | ((with_reducible refine True.intro)) | ((with_reducible refine Stp.go ?_))))); (all_goals (conv => whnf))
    refine Jn.intro (Nat × List Ed) (fun g => ⟨7, hpX raw g.1 t.devs t.links g.2 pools t.tol, [(0, .op 0 0), (4, .op 1 0), (5, .op 2 0), (6, .v (.int .i64 i))]⟩)
      (fun g => g.1 ≤ raw.length ∧ g.2.length = t.edges.length ∧ ∀ (i : Nat) e, g.2[i]? = some e → GPe t.devs.length i e) ?_ ?_
    · (all_goals (repeat' ((conv => whnf); first | (with_reducible refine nNext raw _ _ (by omega) (by assumption) hr fun m1 p1 hm1 hp1 => ?_) | (with_reducible refine in_nat hilt ?_) | (with_reducible refine in_nat (by omega) ?_) | (with_reducible refine ix_map he0 ?_) | (with_reducible refine ix_set hset ?_) | (with_reducible refine ix_ints [24, 23, 25, 22, 26, 32, 30] 7 rfl rfl (by omega) fun b hb => ?_) | ((with_reducible refine sl_full ?ha ?_); (case ha => exact gA)) | ((with_reducible refine Ob.intro ?ha ?_); (case ha => exact gC)) | ((with_reducible refine br_lt ?_)) | ((with_reducible refine br_lf ?_)) | ((with_reducible refine br_pos ?ha ?_); (case ha => exact gB)) | ((with_reducible refine br_neg ?ha ?_); (case ha => exact gB)) | ((with_reducible refine br_t ?ha ?_); (case ha => with_reducible assumption)) | ((with_reducible refine br_f ?ha ?_); (case ha => with_reducible assumption)) | ((with_reducible refine br_dec (fun h => ?_) (fun h => ?_))) | ((with_reducible refine br_not ?_)) | ((with_reducible refine br_b (fun h => ?_) (fun h => ?_))) | ((with_reducible refine wr_i64 rfl ?ha ?hb ?_); (case ha => exact gB); (case hb => exact gB)) | ((with_reducible refine wr_u64 rfl ?ha ?hb ?_); (case ha => exact gB); (case hb => exact gB)) | ((with_reducible refine wr_u32 rfl ?ha ?hb ?_); (case ha => exact gB); (case hb => exact gB)) | ((with_reducible refine And.intro ?_ ?_)) | ((with_reducible refine True.intro)) | ((with_reducible refine Stp.go ?_))))); (all_goals (conv => whnf))
      all_goals first
        | (refine ⟨(p1, es), ⟨hp1, i2, i3⟩, ?_⟩
           (refine Le.auto ?_; repeat' ((conv => whnf); first | with_reducible refine And.intro ?_ ?_ | with_reducible exact True.intro | rfl))
           done)
        | (have harr : ((es.map encE).set (0 + i) (.agg [.v (.string ed.name), .v (.int .i64 ed.dev), .v (.string ed.zone), .v (.int .u32 ed.pf.addr), .v (.int .i64 ed.pf.bits), .sb true])).set (0 + i)
              (.agg [.v (.string ed.name), .v (.int .i64 ed.dev), .v (.string ed.zone), .v (.int .u32 0), .v (.int .i64 b), .sb true]) = (es.set i { ed with pf := ⟨0, b, by decide, by decide⟩, pl := true }).map encE := by
             rw [List.map_set, List.set_set, Nat.zero_add]
           refine ⟨(p1, es.set i { ed with pf := ⟨0, b, by decide, by decide⟩, pl := true }), ⟨hp1, by simp only [List.length_set]; exact i2, fun j e hj => ?_⟩, ?_⟩
           · simp only at hj
             rw [List.getElem?_set] at hj
             split at hj
             · rename_i hji
               subst hji
               cases hj
               obtain ⟨g1, g2, g3, g4, _⟩ := i3 _ ed he
               exact ⟨g1, g2, g3, g4, .inr ⟨rfl, rfl, hb⟩⟩
             · exact i3 j e hj
           · simp only [hpX, List.length_set]
             rw [← harr]
             (refine Le.auto ?_; repeat' ((conv => whnf); first | with_reducible refine And.intro ?_ ?_ | with_reducible exact True.intro | rfl)))
    · rintro ⟨p3, es'⟩ ⟨hp3, j1, j2⟩
      simp only at hp3 j1 j2 ⊢
      (all_goals (repeat' ((conv => whnf); first | ((with_reducible refine sl_full ?ha ?_); (case ha => exact gA)) | ((with_reducible refine Ob.intro ?ha ?_); (case ha => exact gC)) | ((with_reducible refine br_lt ?_)) | ((with_reducible refine br_lf ?_)) | ((with_reducible refine br_pos ?ha ?_); (case ha => exact gB)) | ((with_reducible refine br_neg ?ha ?_); (case ha => exact gB)) | ((with_reducible refine br_t ?ha ?_); (case ha => with_reducible assumption)) | ((with_reducible refine br_f ?ha ?_); (case ha => with_reducible assumption)) | ((with_reducible refine br_dec (fun h => ?_) (fun h => ?_))) | ((with_reducible refine br_not ?_)) | ((with_reducible refine br_b (fun h => ?_) (fun h => ?_))) | ((with_reducible refine wr_i64 rfl ?ha ?hb ?_); (case ha => exact gB); (case hb => exact gB)) | ((with_reducible refine wr_u64 rfl ?ha ?hb ?_); (case ha => exact gB); (case hb => exact gB)) | ((with_reducible refine wr_u32 rfl ?ha ?hb ?_); (case ha => exact gB); (case hb => exact gB)) | ((with_reducible refine And.intro ?_ ?_)) | ((with_reducible refine True.intro)) | ((with_reducible refine Stp.go ?_))))); (all_goals (conv => whnf))
      refine ⟨(p3, i + 1, es'), ⟨hp3, by simp only; omega, j1, j2⟩, by simp only; omega, ?_⟩
      (refine Le.auto ?_; repeat' ((conv => whnf); first | with_reducible refine And.intro ?_ ?_ | with_reducible exact True.intro | rfl))
  · (all_goals (repeat' ((conv => whnf); first | ((with_reducible refine sl_full ?ha ?_); (case ha => exact gA)) | ((with_reducible refine Ob.intro ?ha ?_); (case ha => exact gC)) | ((with_reducible refine br_lt ?_)) | ((with_reducible refine br_lf ?_)) | ((with_reducible refine br_pos ?ha ?_); (case ha => exact gB)) | ((with_reducible refine br_neg ?ha ?_); (case ha => exact gB)) | ((with_reducible refine br_t ?ha ?_); (case ha => with_reducible assumption)) | ((with_reducible refine br_f ?ha ?_); (case ha => with_reducible assumption)) | ((with_reducible refine br_dec (fun h => ?_) (fun h => ?_))) | ((with_reducible refine br_not ?_)) | ((with_reducible refine br_b (fun h => ?_) (fun h => ?_))) | ((with_reducible refine wr_i64 rfl ?ha ?hb ?_); (case ha => exact gB); (case hb => exact gB)) | ((with_reducible refine wr_u64 rfl ?ha ?hb ?_); (case ha => exact gB); (case hb => exact gB)) | ((with_reducible refine wr_u32 rfl ?ha ?hb ?_); (case ha => exact gB); (case hb => exact gB)) | ((with_reducible refine And.intro ?_ ?_)) | ((with_reducible refine True.intro)) | ((with_reducible refine Stp.go ?_))))); (all_goals (conv => whnf))
    exact hK ⟨t.devs, t.links, es, pools, t.tol⟩ p2 ⟨ht.d1, ht.d6, ht.dv, ht.l9, ht.lk, by simp only; omega, i3, hpools, ht.tol⟩ hd hp2
end Go.Proofs.YtgcplfplbcpemaaGreat

set_option linter.unusedVariables false
set_option linter.unusedSimpArgs false
set_option maxRecDepth 20000
namespace Go.Proofs.YtgcplfplbcpemaaGreat
open Go Go.Vm

theorem sEq_data (a b : ByteArray) : sEq a b = (a.data.toList == b.data.toList) := by rw [sEq, ByteArray.toList_eq, ByteArray.toList_eq]
theorem nameOk_data {s : ByteArray} (h : nmChk s.data.toList = true) : nameOk s := by
  obtain ⟨⟨l⟩⟩ := s
  exact nameOk_lit l h
theorem rn_ok {i : Nat} (h : i < 6) : nameOk (rnL.getD i default) := nameOk_data (by
  have : ∀ i : Fin 6, nmChk (rnL.getD i.val default).data.toList = true := by decide
  exact this ⟨i, h⟩)
theorem rn_ne {i j : Nat} (h : i < 6) (hj : j < i) : sEq (rnL.getD j default) (rnL.getD i default) = false := by
  have : ∀ i j : Fin 6, j.val < i.val → ((rnL.getD j.val default).data.toList == (rnL.getD i.val default).data.toList) = false := by decide
  rw [sEq_data]; exact this ⟨i, h⟩ ⟨j, by omega⟩ hj
theorem en_ok {i : Nat} (h : i < 5) : nameOk (enL.getD i default) := nameOk_data (by
  have : ∀ i : Fin 5, nmChk (enL.getD i.val default).data.toList = true := by decide
  exact this ⟨i, h⟩)
theorem en_ne {i j : Nat} (h : i < 5) (hj : j < i) : sEq (enL.getD j default) (enL.getD i default) = false := by
  have : ∀ i j : Fin 5, j.val < i.val → ((enL.getD j.val default).data.toList == (enL.getD i.val default).data.toList) = false := by decide
  rw [sEq_data]; exact this ⟨i, h⟩ ⟨j, by omega⟩ hj
theorem sEq_refl (a : ByteArray) : sEq a a = true := by rw [sEq_data]; simp
theorem zo_ok {s : ByteArray} (h : s ∈ zoL) : nameOk s := nameOk_data (by
  have : ∀ s, s ∈ zoL → nmChk s.data.toList = true := by
    intro s hs
    simp only [zoL, List.mem_cons, List.not_mem_nil, or_false] at hs
    rcases hs with rfl | rfl | rfl <;> decide
  exact this s h)
theorem cl_ok {s : ByteArray} (h : s ∈ clL) : sEq s ⟨#[]⟩ = true ∨ nameOk s := by
  simp only [clL, List.mem_cons, List.not_mem_nil, or_false] at h
  rcases h with rfl | rfl | rfl
  · exact .inl (sEq_refl _)
  · exact .inr (nameOk_data (by decide))
  · exact .inr (nameOk_data (by decide))
theorem sub_ok {i : Nat} (h : i < 5) : (subL.getD i noPf).okP ∧ 1 ≤ (subL.getD i noPf).bits := by
  have : ∀ i : Fin 5, (subL.getD i.val noPf).okP ∧ 1 ≤ (subL.getD i.val noPf).bits := by decide
  exact this ⟨i, h⟩
theorem sub_apart {i j : Nat} (h : i < 5) (hj : j < i) : (subL.getD i noPf).meet (subL.getD j noPf) = false := by
  have : ∀ i j : Fin 5, j.val < i.val → (subL.getD i.val noPf).meet (subL.getD j.val noPf) = false := by decide
  exact this ⟨i, h⟩ ⟨j, by omega⟩ hj
theorem plan_bits {b : Int} (h : b ∈ [(24 : Int), 23, 25, 22, 26, 32, 30]) : 22 ≤ b ∧ b ≤ 32 := by
  simp only [List.mem_cons, List.not_mem_nil, or_false] at h
  omega
theorem topOk_pla {t : Tp} (g : GPla t) : TopOk t := by
  have hd6 := g.d6; have he5 := g.e5; have hl9 := g.l9
  have htol := g.tol
  simp only [List.mem_cons, List.not_mem_nil, or_false] at htol
  refine ⟨g.d1, by omega, by omega, by omega, by rcases g.pools with h | h | h <;> rw [h] <;> decide, by omega, by omega, fun i d hi => ?_, fun i l hi => ?_, fun i e hi => ?_, fun i e hi j o hj ho => ?_, fun i p hi => ?_⟩
  · have hlt := (List.getElem?_eq_some_iff.1 hi).1
    obtain ⟨h1, h2, h3⟩ := g.dv i d hi
    simp only [List.mem_cons, List.not_mem_nil, or_false] at h2
    refine ⟨⟨by rw [h1]; exact rn_ok (by omega), by omega, by omega, cl_ok h3⟩, ?_⟩
    refine firstIx_at hi (sEq_refl _) fun j y hj hy => ?_
    rw [(g.dv j y hy).name, h1]
    exact rn_ne (by omega) hj
  · obtain ⟨h1, h2, h3, h4⟩ := g.lk l (List.mem_of_getElem? hi)
    simp only [List.mem_cons, List.not_mem_nil, or_false] at h4
    exact ⟨h1, h2, h3, by omega, by omega⟩
  · have hlt := (List.getElem?_eq_some_iff.1 hi).1
    obtain ⟨h1, h2, h3, h4, h5⟩ := g.ed i e hi
    refine ⟨⟨by rw [h1]; exact en_ok (by omega), zo_ok h4, h2, h3, ?_⟩, ?_⟩
    · rcases h5 with ⟨p1, p2⟩ | ⟨p1, p2, p3⟩
      · have := sub_ok (i := i) (by omega)
        rw [p2]; exact ⟨this.2, this.1, .inl p1⟩
      · have := plan_bits p3
        refine ⟨by omega, ⟨by omega, by omega, by rw [p2]; exact Int.zero_emod _⟩, .inr p2⟩
    · refine firstIx_at hi (sEq_refl _) fun j y hj hy => ?_
      rw [(g.ed j y hy).name, h1]
      exact en_ne (by omega) hj
  · rintro ⟨q1, q2, q3⟩
    have hlt := (List.getElem?_eq_some_iff.1 hi).1
    rcases (g.ed i e hi).pf with ⟨_, p2⟩ | ⟨p1, _⟩
    · rcases (g.ed j o ho).pf with ⟨_, r2⟩ | ⟨r1, _⟩
      · rw [p2, r2, sub_apart (by omega) hj] at q3; cases q3
      · rw [r1] at q2; cases q2
    · rw [p1] at q1; cases q1
  · rcases g.pools with h | h | h <;> rw [h] at hi ⊢
    · match i, hi with
      | 0, hi => simp at hi; subst hi; exact ⟨by decide, fun j q hj => absurd hj (Nat.not_lt_zero _)⟩
      | i + 1, hi => simp at hi
    · match i, hi with
      | 0, hi => simp at hi; subst hi; exact ⟨by decide, fun j q hj => absurd hj (Nat.not_lt_zero _)⟩
      | i + 1, hi => simp at hi
    · match i, hi with
      | 0, hi => simp at hi; subst hi; exact ⟨by decide, fun j q hj => absurd hj (Nat.not_lt_zero _)⟩
      | 1, hi =>
        simp at hi; subst hi
        refine ⟨by decide, fun j q hj hq => ?_⟩
        have : j = 0 := by omega
        subst this
        simp at hq; subst hq
        decide
      | i + 2, hi => simp at hi
theorem cnPla3 (raw : List Int) (pos : Nat) (hp : pos ≤ raw.length) (hr : raw.length ≤ 9223372036854775807) {K : AV → List Vm.Obj → Prop}
    (hK : ∀ (t : Tp) (pos' : Nat), GPla t → pos' ≤ raw.length → K (encT t) [tapeO raw pos']) : ACall Tryz.prog 6 [.op 0 0, .v (.int .i64 3)] [tapeO raw pos] K :=
  cnPla raw pos 3 (by decide) hp hr fun t p h1 _ h3 => hK t p h1 h3
end Go.Proofs.YtgcplfplbcpemaaGreat

