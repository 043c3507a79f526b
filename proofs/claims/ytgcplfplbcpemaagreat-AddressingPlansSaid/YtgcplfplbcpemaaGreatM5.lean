/- The functions of the seat as the machine takes them: contexts, bodies, contracts out of the code. Printed by gsctx.py. Ranges as lists, and the first contracts. nsgref2: Insert, Starts. nsgref2: Starts. nsgref2: keep. Plain law: canonical lists of ranges. Plain law: the starts; nsgref2's functions as sets. nsgref2: Union, Intersect, Complement, Subtract, Subset. The functions of the seat as the machine takes them: contexts, bodies, contracts out of the code. Printed by gsctx.py. Valid, twice. interval.Valid. nsgref2: Size, Nth, Normal. The functions of the seat as the machine takes them: contexts, bodies, contracts out of the code. Printed by gsctx.py. The tape. The functions of the seat as the machine takes them: contexts, bodies, contracts out of the code. Printed by gsctx.py. interval.Contains; cmp.Compare. The functions of the seat as the machine takes them: contexts, bodies, contracts out of the code. Printed by gsctx.py. interval.canonical, but for the sort. The functions of the seat as the machine takes them: contexts, bodies, contracts out of the code. Printed by gsctx.py. interval.Size, Nth, given the sort. The functions of the seat as the machine takes them: contexts, bodies, contracts out of the code. Printed by gsctx.py. interval: canonical's closure, cmp.Compare, slices.Grow, slices.Concat. -/
import Derived.Test.YtgcplfplbcpemaaGreatProg
import Derived.Laws.StructEq
import Derived.Test.YtgcplfplbcpemaaGreatM4
set_option linter.unusedVariables false
set_option maxRecDepth 20000
namespace Go.Proofs.YtgcplfplbcpemaaGreat
open Go Go.Vm

/-- netsegment/nsgref2.Contains -/
noncomputable def g34 : Ctx := { N := 28, np := 0, own := fun _ => false, plan := fun _ => none, hints := fun _ => [], cut := fun _ => false }
noncomputable def b34 : Code := match Tryz.f93.body with | some c => c | none => .skip
theorem of34 {args : List AV} {hs : List Vm.Obj} {K : AV → List Vm.Obj → Prop} (hp : Nat.beq g34.np hs.length = true) (ha : Nat.ble args.length 28 = true) (hq : initQ hs args fun σ => codeQ Tryz.prog g34 b34 σ (retQ Tryz.prog g34 Tryz.f93.results.toList K)) : ACall Tryz.prog 93 args hs K :=
  ACall.of_code (Γ := g34) Tryz.func93 (by kernel_rfl) (by kernel_rfl) (by kernel_rfl) (by kernel_rfl) (Nat.eq_of_beq_eq_true hp) ha hq
/-- netsegment/nsgref2.Union -/
noncomputable def g14 : Ctx := { N := 8, np := 0, own := fun _ => false, plan := fun _ => none, hints := fun _ => [], cut := fun _ => false }
noncomputable def b14 : Code := match Tryz.f84.body with | some c => c | none => .skip
theorem of14 {args : List AV} {hs : List Vm.Obj} {K : AV → List Vm.Obj → Prop} (hp : Nat.beq g14.np hs.length = true) (ha : Nat.ble args.length 8 = true) (hq : initQ hs args fun σ => codeQ Tryz.prog g14 b14 σ (retQ Tryz.prog g14 Tryz.f84.results.toList K)) : ACall Tryz.prog 84 args hs K :=
  ACall.of_code (Γ := g14) Tryz.func84 (by kernel_rfl) (by kernel_rfl) (by kernel_rfl) (by kernel_rfl) (Nat.eq_of_beq_eq_true hp) ha hq
/-- netsegment/nsgref2.Subtract -/
noncomputable def g43 : Ctx := { N := 8, np := 0, own := fun _ => false, plan := fun _ => none, hints := fun _ => [], cut := fun _ => false }
noncomputable def b43 : Code := match Tryz.f62.body with | some c => c | none => .skip
theorem of43 {args : List AV} {hs : List Vm.Obj} {K : AV → List Vm.Obj → Prop} (hp : Nat.beq g43.np hs.length = true) (ha : Nat.ble args.length 8 = true) (hq : initQ hs args fun σ => codeQ Tryz.prog g43 b43 σ (retQ Tryz.prog g43 Tryz.f62.results.toList K)) : ACall Tryz.prog 62 args hs K :=
  ACall.of_code (Γ := g43) Tryz.func62 (by kernel_rfl) (by kernel_rfl) (by kernel_rfl) (by kernel_rfl) (Nat.eq_of_beq_eq_true hp) ha hq
/-- netsegment/nsgref2.Starts -/
noncomputable def g45 : Ctx := { N := 44, np := 0, own := fun _ => false, plan := fun i => match Nat.beq i 5 with | true => some (lin [(0, true), (1, true), (2, true), (3, true), (4, true), (5, true), (6, true), (7, true), (8, true), (9, true), (10, true)]) | false => match Nat.beq i 6 with | true => some (lin [(0, true), (1, true), (2, true), (3, true), (4, true), (5, true), (6, true), (7, true), (9, true), (10, true), (11, true), (12, true), (13, true), (14, true), (15, true), (16, true), (8, false), (17, false), (18, true)]) | false => none, hints := fun i => match Nat.beq i 2 with | true => [.freeze 5] | false => [], cut := fun _ => false }
noncomputable def b45 : Code := match Tryz.f92.body with | some c => c | none => .skip
theorem of45 {args : List AV} {hs : List Vm.Obj} {K : AV → List Vm.Obj → Prop} (hp : Nat.beq g45.np hs.length = true) (ha : Nat.ble args.length 44 = true) (hq : initQ hs args fun σ => codeQ Tryz.prog g45 b45 σ (retQ Tryz.prog g45 Tryz.f92.results.toList K)) : ACall Tryz.prog 92 args hs K :=
  ACall.of_code (Γ := g45) Tryz.func92 (by kernel_rfl) (by kernel_rfl) (by kernel_rfl) (by kernel_rfl) (Nat.eq_of_beq_eq_true hp) ha hq
/-- netsegment/nsgref2.Insert -/
noncomputable def g51 : Ctx := { N := 52, np := 0, own := fun _ => false, plan := fun i => match Nat.beq i 8 with | true => some (.one 1 true (.one 2 true (.one 3 true (.one 5 true (.one 8 true (.one 9 true (.one 10 true (.alt 0 (.alt 4 (.one 6 false (.one 7 false (.one 11 false (.one 12 true (.done))))) (.alt 6 (.one 4 false (.one 7 false (.one 11 false (.one 12 true (.done))))) (.stop))) (.alt 6 (.one 0 false (.one 4 false (.one 7 false (.one 11 false (.one 12 true (.done)))))) (.stop)))))))))) | false => none, hints := fun _ => [], cut := fun _ => false }
noncomputable def b51 : Code := match Tryz.f100.body with | some c => c | none => .skip
theorem of51 {args : List AV} {hs : List Vm.Obj} {K : AV → List Vm.Obj → Prop} (hp : Nat.beq g51.np hs.length = true) (ha : Nat.ble args.length 52 = true) (hq : initQ hs args fun σ => codeQ Tryz.prog g51 b51 σ (retQ Tryz.prog g51 Tryz.f100.results.toList K)) : ACall Tryz.prog 100 args hs K :=
  ACall.of_code (Γ := g51) Tryz.func100 (by kernel_rfl) (by kernel_rfl) (by kernel_rfl) (by kernel_rfl) (Nat.eq_of_beq_eq_true hp) ha hq
/-- netsegment/nsgref2.keep -/
noncomputable def g38 : Ctx := { N := 123, np := 0, own := fun _ => false, plan := fun i => match Nat.beq i 9 with | true => some (lin [(0, true), (1, true), (2, true), (3, true), (4, true), (5, true), (7, true), (8, true), (9, true), (10, true), (11, true), (12, true), (6, false), (13, false), (14, true), (15, true)]) | false => match Nat.beq i 20 with | true => some (lin [(0, true), (1, true), (2, true), (3, true), (4, true), (5, true), (6, true), (7, true), (8, true), (9, true), (10, true), (11, true), (12, true), (13, true), (14, true), (15, true), (16, true)]) | false => none, hints := fun i => match Nat.beq i 3 with | true => [.virt 10 2] | false => [], cut := fun i => match Nat.beq i 9 with | true => true | false => match Nat.beq i 10 with | true => true | false => match Nat.beq i 11 with | true => true | false => match Nat.beq i 18 with | true => true | false => match Nat.beq i 19 with | true => true | false => false }
noncomputable def b38 : Code := match Tryz.f83.body with | some c => c | none => .skip
theorem of38 {args : List AV} {hs : List Vm.Obj} {K : AV → List Vm.Obj → Prop} (hp : Nat.beq g38.np hs.length = true) (ha : Nat.ble args.length 123 = true) (hq : initQ hs args fun σ => codeQ Tryz.prog g38 b38 σ (retQ Tryz.prog g38 Tryz.f83.results.toList K)) : ACall Tryz.prog 83 args hs K :=
  ACall.of_code (Γ := g38) Tryz.func83 (by kernel_rfl) (by kernel_rfl) (by kernel_rfl) (by kernel_rfl) (Nat.eq_of_beq_eq_true hp) ha hq

end Go.Proofs.YtgcplfplbcpemaaGreat

set_option linter.unusedVariables false
set_option linter.unusedSimpArgs false
set_option maxRecDepth 20000
namespace Go.Proofs.YtgcplfplbcpemaaGreat
open Go Go.Vm

structure Rg where
  lo : Int
  hi : Int
  l0 : 0 ≤ lo
  l1 : lo ≤ 4294967295
  h0 : 0 ≤ hi
  h1 : hi ≤ 4294967295
deriving DecidableEq

noncomputable def encR (r : Rg) : AV := .agg [.v (.int .u32 r.lo), .v (.int .u32 r.hi)]
noncomputable abbrev encRs (l : List Rg) : AV := .lst (l.map encR)
def has (l : List Rg) (v : Int) : Bool := l.any fun r => decide (r.lo ≤ v) && decide (v ≤ r.hi)

theorem has_iff {l : List Rg} {v : Int} : has l v = true ↔ ∃ r, r ∈ l ∧ r.lo ≤ v ∧ v ≤ r.hi := by
  simp [has, List.any_eq_true]

theorem has_succ {l : List Rg} {v : Int} {k : Nat} {r : Rg} (h : l[k]? = some r) : has (l.take (k + 1)) v = (has (l.take k) v || (decide (r.lo ≤ v) && decide (v ≤ r.hi))) := by
  simp [has, List.take_add_one, h]
theorem has_mem {l : List Rg} {v : Int} {k : Nat} {r : Rg} (h : l[k]? = some r) (h1 : r.lo ≤ v) (h2 : v ≤ r.hi) : has l v = true := has_iff.2 ⟨r, List.mem_of_getElem? h, h1, h2⟩

/-- nsgref2.Contains -/
theorem c34 (l : List Rg) (v : Int) (hl : l.length < 1000000) {K : AV → List Vm.Obj → Prop} (hK : K (.sb (has l v)) []) : ACall Tryz.prog 93 [encRs l, .v (.int .u32 v)] [] K := by
  refine ACall.bool (of34 rfl rfl ?_)
  conv => whnf
  refine Lp.intro Nat (fun k => ⟨0, [], [(0, encRs l), (1, .v (.int .u32 v)), (5, .v (.int .i64 k))]⟩) (fun k => k ≤ l.length ∧ has (l.take k) v = false) (fun k => l.length - k) 0 ?_ ?_ ?_
  · exact ⟨by omega, by simp [has]⟩
  · exact ⟨[], rfl, ⟨rfl, rfl, rfl, trivial⟩, trivial⟩
  · intro k ⟨hk, hinv⟩
    have next : ∀ {σ : St} {r : Rg}, l[k]? = some r → ¬ (r.lo ≤ v ∧ v ≤ r.hi) → k < l.length → Le 0 ⟨0, [], [(0, encRs l), (1, .v (.int .u32 v)), (5, .v (.int .i64 ((k + 1 : Nat) : Int)))]⟩ σ →
        ∃ g', (g' ≤ l.length ∧ has (l.take g') v = false) ∧ l.length - g' < l.length - k ∧ Le 0 ⟨0, [], [(0, encRs l), (1, .v (.int .u32 v)), (5, .v (.int .i64 (g' : Int)))]⟩ σ := by
      intro σ r hr hn hkl hle
      refine ⟨k + 1, ⟨by omega, ?_⟩, by omega, hle⟩
      rw [has_succ hr, hinv]
      simp only [Bool.false_or, Bool.and_eq_false_iff, decide_eq_false_iff_not]
      omega
    conv => whnf
    refine br_dec (fun h => ?_) (fun h => ?_)
    · have hkl : k < l.length := by simp at h; omega
      conv => whnf
      refine in_map hkl ?_
      refine ix_any hkl (fun r hr => ?_)
      conv => whnf
      refine br_dec (fun h1 => ?_) (fun h1 => ?_)
      · conv => whnf
        refine in_map hkl ?_
        refine ix_map hr ?_
        conv => whnf
        refine br_dec (fun h2 => ?_) (fun h2 => ?_)
        · conv => whnf
          refine .inl ⟨true, rfl, ?_⟩
          rw [has_mem hr h1 h2] at hK
          exact hK
        · conv => whnf
          refine wr_i64 (r := ((k + 1 : Nat) : Int)) (by omega) (by omega) (by omega) ?_
          conv => whnf
          exact next hr (by omega) hkl ⟨[], rfl, ⟨rfl, rfl, rfl, trivial⟩, trivial⟩
      · conv => whnf
        refine wr_i64 (r := ((k + 1 : Nat) : Int)) (by omega) (by omega) (by omega) ?_
        conv => whnf
        exact next hr (by omega) hkl ⟨[], rfl, ⟨rfl, rfl, rfl, trivial⟩, trivial⟩
    · conv => whnf
      have hkl : k = l.length := by simp at h; omega
      refine .inl ⟨false, rfl, ?_⟩
      rw [hkl, List.take_length] at hinv
      rw [hinv] at hK
      exact hK
end Go.Proofs.YtgcplfplbcpemaaGreat

set_option linter.unusedVariables false
set_option linter.unusedSimpArgs false
set_option maxRecDepth 20000
namespace Go.Proofs.YtgcplfplbcpemaaGreat
open Go Go.Vm

noncomputable def encU (x : Int) : AV := .v (.int .u64 x)
noncomputable abbrev encUs (l : List Int) : AV := .lst (l.map encU)

def ins : List Int → Int → List Int
  | [], v => [v]
  | x :: xs, v => if x < v then x :: ins xs v else if x = v then x :: xs else v :: x :: xs
theorem ins_take : ∀ (l : List Int) (v : Int) (k : Nat), (∀ x, x ∈ l.take k → x < v) → ins l v = l.take k ++ ins (l.drop k) v
  | [], v, k, h => by simp [ins]
  | x :: xs, v, 0, h => by simp
  | x :: xs, v, k + 1, h => by
    have hx : x < v := h x (by simp)
    rw [List.take_succ_cons, List.drop_succ_cons, List.cons_append, ← ins_take xs v k (fun y hy => h y (by simp [hy]))]
    simp [ins, hx]
def insT (l : List Int) (v top : Int) : List Int := if top < v then l else ins l v

/-- nsgref2.Insert -/
theorem c51 (l : List Int) (v top : Int) (ht0 : 0 ≤ top) (ht : top ≤ 4294967295) (hl : l.length < 1000000) {K : AV → List Vm.Obj → Prop} (hK : K (encUs (insT l v top)) []) :
    ACall Tryz.prog 100 [encUs l, .v (.int .u64 v), .v (.int .u32 top)] [] K := by
  refine of51 rfl rfl ?_
  conv => whnf
  refine wr_u64 (r := top) (by omega) (by omega) (by omega) ?_
  conv => whnf
  refine br_dec (fun h => ?_) (fun h => ?_)
  · conv => whnf
    rw [insT, if_pos h] at hK
    exact hK
  · rw [insT, if_neg h] at hK
    conv => whnf
    refine Lp.intro Nat (fun k => ⟨0, [], [(0, encUs l), (1, .v (.int .u64 v)), (7, .v (.int .i64 k))]⟩) (fun k => k ≤ l.length ∧ ∀ x, x ∈ l.take k → x < v) (fun k => l.length - k) 0 ?_ ?_ ?_
    · exact ⟨by omega, by simp⟩
    · exact ⟨[], rfl, ⟨rfl, rfl, rfl, trivial⟩, trivial⟩
    · intro k ⟨hk, hinv⟩
      have hk2 := ins_take l v k hinv
      conv => whnf
      refine br_dec (fun h => ?_) (fun h => ?_)
      · have hkl : k < l.length := by simp at h; omega
        conv => whnf
        refine in_map hkl ?_
        refine ix_any hkl (fun x hx => ?_)
        conv => whnf
        refine br_dec (fun h1 => ?_) (fun h1 => ?_)
        · conv => whnf
          refine wr_i64 (r := ((k + 1 : Nat) : Int)) (by omega) (by omega) (by omega) ?_
          conv => whnf
          refine ⟨k + 1, ⟨by omega, ?_⟩, by omega, ⟨[], rfl, ⟨rfl, rfl, rfl, trivial⟩, trivial⟩⟩
          intro y hy
          rw [List.take_add_one, hx] at hy
          simp only [Option.toList_some, List.mem_append, List.mem_singleton] at hy
          rcases hy with hy | rfl
          · exact hinv y hy
          · exact h1
        · conv => whnf
          refine br_pos h ?_
          conv => whnf
          refine in_map hkl ?_
          refine ix_map hx ?_
          conv => whnf
          refine br_dec (fun h2 => ?_) (fun h2 => ?_)
          · conv => whnf
            have e : ins l v = l := by
              rw [hk2, List.drop_eq_getElem_cons hkl]
              have : l[k] = x := by rw [List.getElem?_eq_getElem hkl] at hx; exact Option.some.inj hx
              rw [this, h2]
              simp only [ins, Int.lt_irrefl, if_false, if_true]
              rw [← h2, ← this, ← List.drop_eq_getElem_cons hkl, List.take_append_drop]
            rw [e] at hK
            exact hK
          · conv => whnf
            have fin : K (.lst ([] ++ (List.take (k - 0) (List.drop 0 l)).map encU ++ [encU v] ++ (List.take (l.length - k) (List.drop k l)).map encU)) [] := by
              have e : [] ++ (List.take (k - 0) (List.drop 0 l)).map encU ++ [encU v] ++ (List.take (l.length - k) (List.drop k l)).map encU = (ins l v).map encU := by
                have e2 : ins (l.drop k) v = v :: l.drop k := by
                  rw [List.drop_eq_getElem_cons hkl]
                  have : l[k] = x := by rw [List.getElem?_eq_getElem hkl] at hx; exact Option.some.inj hx
                  rw [this]
                  simp only [ins, h1, h2, if_false]
                rw [hk2, e2]
                simp [List.take_of_length_le]
              rw [e]; exact hK
            (all_goals (repeat' ((conv => whnf); first | (with_reducible refine Sb.intro 0 k rfl rfl (by omega) (by simp; omega) ?_) | (with_reducible refine Sb.intro k l.length rfl (by simp) (by omega) (by simp) ?_) | (with_reducible refine sl_map (by omega) ?_) | (with_reducible refine Ob.intro (fun x hx => by obtain ⟨y, _, rfl⟩ := List.mem_map.1 hx; rfl) ?_) | (with_reducible refine Ob.intro (by kernel_rfl) ?_) | ((with_reducible refine sl_full ?ha ?_); (case ha => exact gA)) | ((with_reducible refine Ob.intro ?ha ?_); (case ha => exact gC)) | ((with_reducible refine br_lt ?_)) | ((with_reducible refine br_lf ?_)) | ((with_reducible refine br_pos ?ha ?_); (case ha => exact gB)) | ((with_reducible refine br_neg ?ha ?_); (case ha => exact gB)) | ((with_reducible refine br_t ?ha ?_); (case ha => with_reducible assumption)) | ((with_reducible refine br_f ?ha ?_); (case ha => with_reducible assumption)) | ((with_reducible refine br_dec (fun h => ?_) (fun h => ?_))) | ((with_reducible refine br_not ?_)) | ((with_reducible refine br_b (fun h => ?_) (fun h => ?_))) | ((with_reducible refine wr_i64 rfl ?ha ?hb ?_); (case ha => exact gB); (case hb => exact gB)) | ((with_reducible refine wr_u64 rfl ?ha ?hb ?_); (case ha => exact gB); (case hb => exact gB)) | ((with_reducible refine wr_u32 rfl ?ha ?hb ?_); (case ha => exact gB); (case hb => exact gB)) | ((with_reducible refine And.intro ?_ ?_)) | ((with_reducible refine True.intro)) | ((with_reducible refine Stp.go ?_))))); (all_goals (conv => whnf))
            all_goals exact fin
      · (conv => whnf)
        have hkl : k = l.length := by simp at h; omega
        refine br_neg h ?_
        (conv => whnf)
        have fin : K (.lst ([] ++ (List.take (k - 0) (List.drop 0 l)).map encU ++ [encU v] ++ (List.take (l.length - k) (List.drop k l)).map encU)) [] := by
          have e : [] ++ (List.take (k - 0) (List.drop 0 l)).map encU ++ [encU v] ++ (List.take (l.length - k) (List.drop k l)).map encU = (ins l v).map encU := by
            subst hkl
            rw [hk2]
            simp [ins]
          rw [e]; exact hK
        (all_goals (repeat' ((conv => whnf); first | (with_reducible refine Sb.intro 0 k rfl rfl (by omega) (by simp; omega) ?_) | (with_reducible refine Sb.intro k l.length rfl (by simp) (by omega) (by simp) ?_) | (with_reducible refine sl_map (by omega) ?_) | (with_reducible refine Ob.intro (fun x hx => by obtain ⟨y, _, rfl⟩ := List.mem_map.1 hx; rfl) ?_) | (with_reducible refine Ob.intro (by kernel_rfl) ?_) | ((with_reducible refine sl_full ?ha ?_); (case ha => exact gA)) | ((with_reducible refine Ob.intro ?ha ?_); (case ha => exact gC)) | ((with_reducible refine br_lt ?_)) | ((with_reducible refine br_lf ?_)) | ((with_reducible refine br_pos ?ha ?_); (case ha => exact gB)) | ((with_reducible refine br_neg ?ha ?_); (case ha => exact gB)) | ((with_reducible refine br_t ?ha ?_); (case ha => with_reducible assumption)) | ((with_reducible refine br_f ?ha ?_); (case ha => with_reducible assumption)) | ((with_reducible refine br_dec (fun h => ?_) (fun h => ?_))) | ((with_reducible refine br_not ?_)) | ((with_reducible refine br_b (fun h => ?_) (fun h => ?_))) | ((with_reducible refine wr_i64 rfl ?ha ?hb ?_); (case ha => exact gB); (case hb => exact gB)) | ((with_reducible refine wr_u64 rfl ?ha ?hb ?_); (case ha => exact gB); (case hb => exact gB)) | ((with_reducible refine wr_u32 rfl ?ha ?hb ?_); (case ha => exact gB); (case hb => exact gB)) | ((with_reducible refine And.intro ?_ ?_)) | ((with_reducible refine True.intro)) | ((with_reducible refine Stp.go ?_))))); (all_goals (conv => whnf))
        all_goals exact fin

end Go.Proofs.YtgcplfplbcpemaaGreat

set_option linter.unusedVariables false
set_option linter.unusedSimpArgs false
set_option maxRecDepth 20000
namespace Go.Proofs.YtgcplfplbcpemaaGreat
open Go Go.Vm

def stP (top : Int) (out : List Int) (r : Rg) : List Int := if r.lo ≤ r.hi then insT (insT out r.lo top) (r.hi + 1) top else out
def starts (l : List Rg) (top : Int) : List Int := l.foldl (stP top) [0]
theorem ins_length : ∀ (l : List Int) (v : Int), (ins l v).length ≤ l.length + 1
  | [], v => by simp [ins]
  | x :: xs, v => by
    have := ins_length xs v
    simp only [ins]
    split
    · simp; omega
    · split <;> simp
theorem insT_length (l : List Int) (v top : Int) : (insT l v top).length ≤ l.length + 1 := by
  unfold insT; split
  · omega
  · exact ins_length _ _
theorem stP_length (top : Int) (out : List Int) (r : Rg) : (stP top out r).length ≤ out.length + 2 := by
  unfold stP; split
  · have := insT_length out r.lo top
    have := insT_length (insT out r.lo top) (r.hi + 1) top
    omega
  · omega
theorem foldl_succ {α β : Type} {f : β → α → β} {b : β} {l : List α} {k : Nat} {r : α} (h : l[k]? = some r) : (l.take (k + 1)).foldl f b = f ((l.take k).foldl f b) r := by
  simp [List.take_add_one, h]

/-- nsgref2.Starts -/
theorem c45 (l : List Rg) (top : Int) (ht0 : 0 ≤ top) (ht : top ≤ 4294967295) (hl : l.length < 100000) {K : AV → List Vm.Obj → Prop} (hK : K (encUs (starts l top)) []) :
    ACall Tryz.prog 92 [encRs l, .v (.int .u32 top)] [] K := by
  refine of45 rfl rfl ?_
  iterate 3 ((conv => whnf); first | ((with_reducible refine sl_full ?ha ?_); (case ha => exact gA)) | ((with_reducible refine Ob.intro ?ha ?_); (case ha => exact gC)) | skip)
  refine Lp.intro Nat (fun k => ⟨1, [], [(0, encRs l), (1, .v (.int .u32 top)), (5, encUs ((l.take k).foldl (stP top) [0])), (6, .v (.int .i64 k))]⟩) (fun k => k ≤ l.length ∧ ((l.take k).foldl (stP top) [0]).length ≤ 2 * k + 1) (fun k => l.length - k) 0 ?_ ?_ ?_
  · exact ⟨by omega, by simp⟩
  · exact ⟨[], rfl, ⟨rfl, rfl, rfl, rfl, trivial⟩, trivial⟩
  · intro k ⟨hk, hlen⟩
    rcases Nat.lt_or_ge k l.length with hkl | hkl
    · obtain ⟨r, hr⟩ : ∃ r, l[k]? = some r := ⟨_, List.getElem?_eq_getElem hkl⟩
      have b1 := r.l0; have b2 := r.l1; have b3 := r.h0; have b4 := r.h1
      have hs := foldl_succ (f := stP top) (b := [0]) hr
      have next : ∀ σ, Le 0 ⟨1, [], [(0, encRs l), (1, .v (.int .u32 top)), (5, encUs (stP top ((l.take k).foldl (stP top) [0]) r)), (6, .v (.int .i64 ((k : Int) + 1)))]⟩ σ →
          ∃ g' : Nat, (g' ≤ l.length ∧ ((l.take g').foldl (stP top) [0]).length ≤ 2 * g' + 1) ∧ l.length - g' < l.length - k ∧ Le 0 ⟨1, [], [(0, encRs l), (1, .v (.int .u32 top)), (5, encUs ((l.take g').foldl (stP top) [0])), (6, .v (.int .i64 (g' : Int)))]⟩ σ := by
        intro σ h
        have := stP_length top ((l.take k).foldl (stP top) [0]) r
        exact ⟨k + 1, ⟨by omega, by rw [hs]; omega⟩, by omega, by rw [hs]; exact h⟩
      generalize (l.take k).foldl (stP top) [0] = out at hs hlen next ⊢
      have i1 := insT_length out r.lo top
      iterate 32 (all_goals ((conv => whnf); first | (with_reducible refine in_map hkl ?_) | (with_reducible refine ix_map hr ?_) | (with_reducible refine c51 _ _ _ ht0 ht (by omega) ?_) | ((with_reducible refine sl_full ?ha ?_); (case ha => exact gA)) | ((with_reducible refine Ob.intro ?ha ?_); (case ha => exact gC)) | ((with_reducible refine br_lt ?_)) | ((with_reducible refine br_lf ?_)) | ((with_reducible refine br_pos ?ha ?_); (case ha => exact gB)) | ((with_reducible refine br_neg ?ha ?_); (case ha => exact gB)) | ((with_reducible refine br_t ?ha ?_); (case ha => with_reducible assumption)) | ((with_reducible refine br_f ?ha ?_); (case ha => with_reducible assumption)) | ((with_reducible refine br_dec (fun h => ?_) (fun h => ?_))) | ((with_reducible refine br_not ?_)) | ((with_reducible refine br_b (fun h => ?_) (fun h => ?_))) | ((with_reducible refine wr_i64 rfl ?ha ?hb ?_); (case ha => exact gB); (case hb => exact gB)) | ((with_reducible refine wr_u64 rfl ?ha ?hb ?_); (case ha => exact gB); (case hb => exact gB)) | ((with_reducible refine wr_u32 rfl ?ha ?hb ?_); (case ha => exact gB); (case hb => exact gB)) | ((with_reducible refine And.intro ?_ ?_)) | ((with_reducible refine True.intro)) | ((with_reducible refine Stp.go ?_)) | skip))
      all_goals
        refine next _ ?_
        unfold stP
        first
        | (rw [if_pos (by assumption)]; exact ⟨[], rfl, ⟨rfl, rfl, rfl, rfl, trivial⟩, trivial⟩)
        | (rw [if_neg (by assumption)]; exact ⟨[], rfl, ⟨rfl, rfl, rfl, rfl, trivial⟩, trivial⟩)
    · iterate 3 (all_goals ((conv => whnf); first | (with_reducible refine in_map hkl ?_) | ((with_reducible refine sl_full ?ha ?_); (case ha => exact gA)) | ((with_reducible refine Ob.intro ?ha ?_); (case ha => exact gC)) | ((with_reducible refine br_lt ?_)) | ((with_reducible refine br_lf ?_)) | ((with_reducible refine br_pos ?ha ?_); (case ha => exact gB)) | ((with_reducible refine br_neg ?ha ?_); (case ha => exact gB)) | ((with_reducible refine br_t ?ha ?_); (case ha => with_reducible assumption)) | ((with_reducible refine br_f ?ha ?_); (case ha => with_reducible assumption)) | ((with_reducible refine br_dec (fun h => ?_) (fun h => ?_))) | ((with_reducible refine br_not ?_)) | ((with_reducible refine br_b (fun h => ?_) (fun h => ?_))) | ((with_reducible refine wr_i64 rfl ?ha ?hb ?_); (case ha => exact gB); (case hb => exact gB)) | ((with_reducible refine wr_u64 rfl ?ha ?hb ?_); (case ha => exact gB); (case hb => exact gB)) | ((with_reducible refine wr_u32 rfl ?ha ?hb ?_); (case ha => exact gB); (case hb => exact gB)) | ((with_reducible refine And.intro ?_ ?_)) | ((with_reducible refine True.intro)) | ((with_reducible refine Stp.go ?_)) | skip))
      have e : l.take k = l := List.take_of_length_le hkl
      rw [starts] at hK
      rw [e]
      exact hK

end Go.Proofs.YtgcplfplbcpemaaGreat

set_option linter.unusedVariables false
set_option linter.unusedSimpArgs false
set_option maxRecDepth 20000
namespace Go.Proofs.YtgcplfplbcpemaaGreat
open Go Go.Vm

def mkR (lo hi : Int) : Rg := if h : 0 ≤ lo ∧ lo ≤ 4294967295 ∧ 0 ≤ hi ∧ hi ≤ 4294967295 then ⟨lo, hi, h.1, h.2.1, h.2.2.1, h.2.2.2⟩ else ⟨0, 0, by decide, by decide, by decide, by decide⟩
theorem mkR_lo {lo hi : Int} (h0 : 0 ≤ lo) (h1 : lo ≤ 4294967295) (h2 : 0 ≤ hi) (h3 : hi ≤ 4294967295) : (mkR lo hi).lo = lo := by unfold mkR; rw [dif_pos ⟨h0, h1, h2, h3⟩]
theorem mkR_hi {lo hi : Int} (h0 : 0 ≤ lo) (h1 : lo ≤ 4294967295) (h2 : 0 ≤ hi) (h3 : hi ≤ 4294967295) : (mkR lo hi).hi = hi := by unfold mkR; rw [dif_pos ⟨h0, h1, h2, h3⟩]
theorem enc_mkR {lo hi : Int} (h0 : 0 ≤ lo) (h1 : lo ≤ 4294967295) (h2 : 0 ≤ hi) (h3 : hi ≤ 4294967295) : encR (mkR lo hi) = .agg [.v (.int .u32 lo), .v (.int .u32 hi)] := by
  unfold encR; rw [mkR_lo h0 h1 h2 h3, mkR_hi h0 h1 h2 h3]

/-- the segments between the starts -/
def segs (top : Int) : List Int → List (Int × Int)
  | [] => []
  | [x] => [(x, top)]
  | x :: y :: r => (x, y - 1) :: segs top (y :: r)
def keepC (c : Int) (i j : Bool) : Bool := if c = 1 then i && j else if c = 2 then i && !j else if c = 3 then !i && !j else i || j
def keepS (f : Int → Bool) (out : List Rg) (s : Int × Int) : List Rg :=
  if f s.1 then match out.getLast? with
    | some r => if r.hi + 1 = s.1 then out.dropLast ++ [mkR r.lo s.2] else out ++ [mkR s.1 s.2]
    | none => [mkR s.1 s.2]
  else out
def keepL (f : Int → Bool) (st : List Int) (top : Int) : List Rg := (segs top st).foldl (keepS f) []

theorem segs_length (top : Int) : ∀ st : List Int, (segs top st).length = st.length
  | [] => rfl
  | [x] => rfl
  | x :: y :: r => by simp only [segs, List.length_cons, segs_length top (y :: r)]
theorem segs_get (top : Int) : ∀ (st : List Int) (k : Nat) (x : Int), st[k]? = some x → (segs top st)[k]? = some (x, match st[k + 1]? with | some y => y - 1 | none => top)
  | [], k, x, h => by simp at h
  | [z], k, x, h => by
    cases k with
    | zero => simp at h; subst h; rfl
    | succ k => simp at h
  | z :: y :: r, k, x, h => by
    cases k with
    | zero => simp at h; subst h; rfl
    | succ k =>
      have := segs_get top (y :: r) k x (by simpa using h)
      simpa [segs] using this
theorem keepS_length (f : Int → Bool) (out : List Rg) (s : Int × Int) : (keepS f out s).length ≤ out.length + 1 := by
  unfold keepS
  split
  · split
    · split <;> simp
    · simp
  · omega

theorem c45' (l : List Rg) (top : Int) (ht0 : 0 ≤ top) (ht : top ≤ 4294967295) (hl : l.length < 100000) (xs : List AV) (hxs : xs = l.map encR) {K : AV → List Vm.Obj → Prop} (hK : K (encUs (starts l top)) []) :
    ACall Tryz.prog 92 [.lst xs, .v (.int .u32 top)] [] K := by subst hxs; exact c45 l top ht0 ht hl hK

/-- nsgref2.keep -/
theorem c38 (a b : List Rg) (c top : Int) (ht0 : 0 ≤ top) (ht : top ≤ 4294967295) (ha : a.length < 10000) (hb : b.length < 10000)
    (hst : ∀ x, x ∈ starts (a ++ b) top → 0 ≤ x ∧ x ≤ top) (hpos : ∀ (k : Nat) x, (starts (a ++ b) top)[k + 1]? = some x → 1 ≤ x) (hlen : (starts (a ++ b) top).length < 100000)
    {K : AV → List Vm.Obj → Prop} (hK : K (encRs (keepL (fun v => keepC c (has a v) (has b v)) (starts (a ++ b) top) top)) []) :
    ACall Tryz.prog 83 [encRs a, encRs b, .v (.int .i64 c), .v (.int .u32 top)] [] K := by
  refine of38 rfl rfl ?_
  iterate 12 (all_goals ((conv => whnf); first | (with_reducible refine c45' (a ++ b) top ht0 ht (by simp; omega) _ (by simp) ?_) | ((with_reducible refine sl_full ?ha ?_); (case ha => exact gA)) | ((with_reducible refine Ob.intro ?ha ?_); (case ha => exact gC)) | ((with_reducible refine br_lt ?_)) | ((with_reducible refine br_lf ?_)) | ((with_reducible refine br_pos ?ha ?_); (case ha => exact gB)) | ((with_reducible refine br_neg ?ha ?_); (case ha => exact gB)) | ((with_reducible refine br_t ?ha ?_); (case ha => with_reducible assumption)) | ((with_reducible refine br_f ?ha ?_); (case ha => with_reducible assumption)) | ((with_reducible refine br_dec (fun h => ?_) (fun h => ?_))) | ((with_reducible refine br_not ?_)) | ((with_reducible refine br_b (fun h => ?_) (fun h => ?_))) | ((with_reducible refine wr_i64 rfl ?ha ?hb ?_); (case ha => exact gB); (case hb => exact gB)) | ((with_reducible refine wr_u64 rfl ?ha ?hb ?_); (case ha => exact gB); (case hb => exact gB)) | ((with_reducible refine wr_u32 rfl ?ha ?hb ?_); (case ha => exact gB); (case hb => exact gB)) | ((with_reducible refine And.intro ?_ ?_)) | ((with_reducible refine True.intro)) | ((with_reducible refine Stp.go ?_)) | skip))
  generalize hst' : starts (a ++ b) top = st at *
  generalize hf : (fun v => keepC c (has a v) (has b v)) = f at *
  refine Lp.intro Nat (fun k => ⟨1, [(0, .arr 2 ((((segs top st).take k).foldl (keepS f) []).map encR))], [(0, encRs a), (1, encRs b), (2, .v (.int .i64 c)), (3, .v (.int .u32 top)), (9, encUs st), (10, .os 0 2 0 (((segs top st).take k).foldl (keepS f) []).length), (11, .v (.int .i64 k))]⟩) (fun k => k ≤ st.length ∧ (((segs top st).take k).foldl (keepS f) []).length ≤ k) (fun k => st.length - k) 0 ?_ ?_ ?_
  · exact ⟨by omega, by simp⟩
  · exact ⟨[(0, 3)], rfl, ⟨rfl, rfl, rfl, rfl, rfl, rfl, rfl, trivial⟩, ⟨rfl, trivial⟩⟩
  · intro k ⟨hk, hle⟩
    rcases Nat.lt_or_ge k st.length with hkl | hkl
    · obtain ⟨x, hx⟩ : ∃ x, st[k]? = some x := ⟨_, List.getElem?_eq_getElem hkl⟩
      have hx0 := hst x (List.mem_of_getElem? hx)
      have hsg := segs_get top st k x hx
      generalize hto : (match st[k + 1]? with | some y => y - 1 | none => top) = to at hsg
      have hs := foldl_succ (f := keepS f) (b := []) hsg
      have hfx : f x = keepC c (has a x) (has b x) := by rw [← hf]
      have hto1 : 0 ≤ to ∧ to ≤ top := by
        cases hy : st[k + 1]? with
        | none => rw [hy] at hto; simp only at hto; omega
        | some y =>
          rw [hy] at hto; simp only at hto
          have := hst y (List.mem_of_getElem? hy)
          have := hpos k y hy
          omega
      have next : ∀ (σ : St) (ρ : List (Nat × Nat)) (xs : List AV) (n : Nat), xs = (keepS f (((segs top st).take k).foldl (keepS f) []) (x, to)).map encR → n = (keepS f (((segs top st).take k).foldl (keepS f) []) (x, to)).length →
          Le 0 ⟨1, [(0, .arr 2 xs)], [(0, encRs a), (1, encRs b), (2, .v (.int .i64 c)), (3, .v (.int .u32 top)), (9, encUs st), (10, .os 0 2 0 n), (11, .v (.int .i64 ((k : Int) + 1)))]⟩ σ →
          ∃ g' : Nat, (g' ≤ st.length ∧ (((segs top st).take g').foldl (keepS f) []).length ≤ g') ∧ st.length - g' < st.length - k ∧ Le 0 ⟨1, [(0, .arr 2 ((((segs top st).take g').foldl (keepS f) []).map encR))], [(0, encRs a), (1, encRs b), (2, .v (.int .i64 c)), (3, .v (.int .u32 top)), (9, encUs st), (10, .os 0 2 0 (((segs top st).take g').foldl (keepS f) []).length), (11, .v (.int .i64 (g' : Int)))]⟩ σ := by
        intro σ ρ xs n h1 h2 h3
        have := keepS_length f (((segs top st).take k).foldl (keepS f) []) (x, to)
        exact ⟨k + 1, ⟨by omega, by rw [hs]; omega⟩, by omega, by rw [hs, ← h1, ← h2]; exact h3⟩
      generalize hout : ((segs top st).take k).foldl (keepS f) [] = out at hs hle next ⊢
      iterate 4 (all_goals ((conv => whnf); first | (with_reducible refine in_map hkl ?_) | ((with_reducible refine sl_full ?ha ?_); (case ha => exact gA)) | ((with_reducible refine Ob.intro ?ha ?_); (case ha => exact gC)) | ((with_reducible refine br_lt ?_)) | ((with_reducible refine br_lf ?_)) | ((with_reducible refine br_pos ?ha ?_); (case ha => exact gB)) | ((with_reducible refine br_neg ?ha ?_); (case ha => exact gB)) | ((with_reducible refine br_t ?ha ?_); (case ha => with_reducible assumption)) | ((with_reducible refine br_f ?ha ?_); (case ha => with_reducible assumption)) | ((with_reducible refine br_dec (fun h => ?_) (fun h => ?_))) | ((with_reducible refine br_not ?_)) | ((with_reducible refine br_b (fun h => ?_) (fun h => ?_))) | ((with_reducible refine wr_i64 rfl ?ha ?hb ?_); (case ha => exact gB); (case hb => exact gB)) | ((with_reducible refine wr_u64 rfl ?ha ?hb ?_); (case ha => exact gB); (case hb => exact gB)) | ((with_reducible refine wr_u32 rfl ?ha ?hb ?_); (case ha => exact gB); (case hb => exact gB)) | ((with_reducible refine And.intro ?_ ?_)) | ((with_reducible refine True.intro)) | ((with_reducible refine Stp.go ?_)) | skip))
      refine Jn.at ⟨1, [(0, .arr 2 (out.map encR))], [(0, encRs a), (1, encRs b), (2, .v (.int .i64 c)), (3, .v (.int .u32 top)), (9, encUs st), (10, .os 0 2 0 out.length), (11, .v (.int .i64 k)), (12, .v (.int .u64 to))]⟩ ?_ ?_
      · rcases Nat.lt_or_ge (k + 1) st.length with hk1 | hk1
        · obtain ⟨y, hy⟩ : ∃ y, st[k + 1]? = some y := ⟨_, List.getElem?_eq_getElem hk1⟩
          have h1 := hst y (List.mem_of_getElem? hy)
          have h2 := hpos k y hy
          rw [hy] at hto; simp only at hto; subst hto
          iterate 12 (all_goals ((conv => whnf); first | (with_reducible refine In.intro (k + 1) (by omega) (by simp; omega) ?_) | (with_reducible refine ix_map hy ?_) | ((with_reducible refine sl_full ?ha ?_); (case ha => exact gA)) | ((with_reducible refine Ob.intro ?ha ?_); (case ha => exact gC)) | ((with_reducible refine br_lt ?_)) | ((with_reducible refine br_lf ?_)) | ((with_reducible refine br_pos ?ha ?_); (case ha => exact gB)) | ((with_reducible refine br_neg ?ha ?_); (case ha => exact gB)) | ((with_reducible refine br_t ?ha ?_); (case ha => with_reducible assumption)) | ((with_reducible refine br_f ?ha ?_); (case ha => with_reducible assumption)) | ((with_reducible refine br_dec (fun h => ?_) (fun h => ?_))) | ((with_reducible refine br_not ?_)) | ((with_reducible refine br_b (fun h => ?_) (fun h => ?_))) | ((with_reducible refine wr_i64 rfl ?ha ?hb ?_); (case ha => exact gB); (case hb => exact gB)) | ((with_reducible refine wr_u64 rfl ?ha ?hb ?_); (case ha => exact gB); (case hb => exact gB)) | ((with_reducible refine wr_u32 rfl ?ha ?hb ?_); (case ha => exact gB); (case hb => exact gB)) | ((with_reducible refine And.intro ?_ ?_)) | ((with_reducible refine True.intro)) | ((with_reducible refine Stp.go ?_)) | skip))
          exact ⟨(), trivial, [(0, 0)], rfl, ⟨rfl, rfl, rfl, rfl, rfl, rfl, rfl, rfl, trivial⟩, ⟨rfl, trivial⟩⟩
        · rw [List.getElem?_eq_none hk1] at hto; simp only at hto; subst hto
          iterate 8 (all_goals ((conv => whnf); first | (with_reducible refine in_map hkl ?_) | ((with_reducible refine sl_full ?ha ?_); (case ha => exact gA)) | ((with_reducible refine Ob.intro ?ha ?_); (case ha => exact gC)) | ((with_reducible refine br_lt ?_)) | ((with_reducible refine br_lf ?_)) | ((with_reducible refine br_pos ?ha ?_); (case ha => exact gB)) | ((with_reducible refine br_neg ?ha ?_); (case ha => exact gB)) | ((with_reducible refine br_t ?ha ?_); (case ha => with_reducible assumption)) | ((with_reducible refine br_f ?ha ?_); (case ha => with_reducible assumption)) | ((with_reducible refine br_dec (fun h => ?_) (fun h => ?_))) | ((with_reducible refine br_not ?_)) | ((with_reducible refine br_b (fun h => ?_) (fun h => ?_))) | ((with_reducible refine wr_i64 rfl ?ha ?hb ?_); (case ha => exact gB); (case hb => exact gB)) | ((with_reducible refine wr_u64 rfl ?ha ?hb ?_); (case ha => exact gB); (case hb => exact gB)) | ((with_reducible refine wr_u32 rfl ?ha ?hb ?_); (case ha => exact gB); (case hb => exact gB)) | ((with_reducible refine And.intro ?_ ?_)) | ((with_reducible refine True.intro)) | ((with_reducible refine Stp.go ?_)) | skip))
          exact ⟨(), trivial, [(0, 0)], rfl, ⟨rfl, rfl, rfl, rfl, rfl, rfl, rfl, rfl, trivial⟩, ⟨rfl, trivial⟩⟩
      (conv => whnf)
      refine Jn.at ⟨1, [(0, .arr 2 (out.map encR))], [(0, encRs a), (1, encRs b), (2, .v (.int .i64 c)), (3, .v (.int .u32 top)), (9, encUs st), (10, .os 0 2 0 out.length), (11, .v (.int .i64 k)), (12, .v (.int .u64 to)), (13, .sb (has a x)), (14, .sb (has b x))]⟩ ?_ ?_
      · iterate 24 (all_goals ((conv => whnf); first | (with_reducible refine in_map hkl ?_) | (with_reducible refine ix_map hx ?_) | (with_reducible refine c34 a x (by omega) ?_) | (with_reducible refine c34 b x (by omega) ?_) | ((with_reducible refine sl_full ?ha ?_); (case ha => exact gA)) | ((with_reducible refine Ob.intro ?ha ?_); (case ha => exact gC)) | ((with_reducible refine br_lt ?_)) | ((with_reducible refine br_lf ?_)) | ((with_reducible refine br_pos ?ha ?_); (case ha => exact gB)) | ((with_reducible refine br_neg ?ha ?_); (case ha => exact gB)) | ((with_reducible refine br_t ?ha ?_); (case ha => with_reducible assumption)) | ((with_reducible refine br_f ?ha ?_); (case ha => with_reducible assumption)) | ((with_reducible refine br_dec (fun h => ?_) (fun h => ?_))) | ((with_reducible refine br_not ?_)) | ((with_reducible refine br_b (fun h => ?_) (fun h => ?_))) | ((with_reducible refine wr_i64 rfl ?ha ?hb ?_); (case ha => exact gB); (case hb => exact gB)) | ((with_reducible refine wr_u64 rfl ?ha ?hb ?_); (case ha => exact gB); (case hb => exact gB)) | ((with_reducible refine wr_u32 rfl ?ha ?hb ?_); (case ha => exact gB); (case hb => exact gB)) | ((with_reducible refine And.intro ?_ ?_)) | ((with_reducible refine True.intro)) | ((with_reducible refine Stp.go ?_)) | skip))
        all_goals exact ⟨(), trivial, [(0, 0)], rfl, ⟨rfl, rfl, rfl, rfl, rfl, rfl, rfl, rfl, rfl, rfl, trivial⟩, ⟨rfl, trivial⟩⟩
      (conv => whnf)
      -- what was asked, in whatever form
      refine Jn.intro AV (fun y => ⟨1, [(0, .arr 2 (out.map encR))], [(0, encRs a), (1, encRs b), (2, .v (.int .i64 c)), (3, .v (.int .u32 top)), (9, encUs st), (10, .os 0 2 0 out.length), (11, .v (.int .i64 k)), (12, .v (.int .u64 to)), (13, .sb (has a x)), (14, .sb (has b x)), (15, y)]⟩) (fun y => y = .sb (has a x || has b x) ∨ y = .v (.bool (has a x || has b x))) ?_ ?_
      · iterate 8 (all_goals ((conv => whnf); first | (with_reducible refine in_map hkl ?_) | ((with_reducible refine sl_full ?ha ?_); (case ha => exact gA)) | ((with_reducible refine Ob.intro ?ha ?_); (case ha => exact gC)) | ((with_reducible refine br_lt ?_)) | ((with_reducible refine br_lf ?_)) | ((with_reducible refine br_pos ?ha ?_); (case ha => exact gB)) | ((with_reducible refine br_neg ?ha ?_); (case ha => exact gB)) | ((with_reducible refine br_t ?ha ?_); (case ha => with_reducible assumption)) | ((with_reducible refine br_f ?ha ?_); (case ha => with_reducible assumption)) | ((with_reducible refine br_dec (fun h => ?_) (fun h => ?_))) | ((with_reducible refine br_not ?_)) | ((with_reducible refine br_b (fun h => ?_) (fun h => ?_))) | ((with_reducible refine wr_i64 rfl ?ha ?hb ?_); (case ha => exact gB); (case hb => exact gB)) | ((with_reducible refine wr_u64 rfl ?ha ?hb ?_); (case ha => exact gB); (case hb => exact gB)) | ((with_reducible refine wr_u32 rfl ?ha ?hb ?_); (case ha => exact gB); (case hb => exact gB)) | ((with_reducible refine And.intro ?_ ?_)) | ((with_reducible refine True.intro)) | ((with_reducible refine Stp.go ?_)) | skip))
        · exact ⟨.v (.bool true), .inr (by rw [h]; rfl), [(0, 0)], rfl, ⟨rfl, rfl, rfl, rfl, rfl, rfl, rfl, rfl, rfl, rfl, rfl, trivial⟩, ⟨rfl, trivial⟩⟩
        · exact ⟨.sb (has b x), .inl (by rw [h]; rfl), [(0, 0)], rfl, ⟨rfl, rfl, rfl, rfl, rfl, rfl, rfl, rfl, rfl, rfl, rfl, trivial⟩, ⟨rfl, trivial⟩⟩
      intro y hy
      (conv => whnf)
      refine Jn.intro AV (fun y => ⟨1, [(0, .arr 2 (out.map encR))], [(0, encRs a), (1, encRs b), (2, .v (.int .i64 c)), (3, .v (.int .u32 top)), (9, encUs st), (10, .os 0 2 0 out.length), (11, .v (.int .i64 k)), (12, .v (.int .u64 to)), (15, y)]⟩) (fun y => y = .sb (f x) ∨ y = .v (.bool (f x))) ?_ ?_
      · rcases hy with rfl | rfl
        all_goals
          iterate 20 (all_goals ((conv => whnf); first | (with_reducible refine in_map hkl ?_) | ((with_reducible refine sl_full ?ha ?_); (case ha => exact gA)) | ((with_reducible refine Ob.intro ?ha ?_); (case ha => exact gC)) | ((with_reducible refine br_lt ?_)) | ((with_reducible refine br_lf ?_)) | ((with_reducible refine br_pos ?ha ?_); (case ha => exact gB)) | ((with_reducible refine br_neg ?ha ?_); (case ha => exact gB)) | ((with_reducible refine br_t ?ha ?_); (case ha => with_reducible assumption)) | ((with_reducible refine br_f ?ha ?_); (case ha => with_reducible assumption)) | ((with_reducible refine br_dec (fun h => ?_) (fun h => ?_))) | ((with_reducible refine br_not ?_)) | ((with_reducible refine br_b (fun h => ?_) (fun h => ?_))) | ((with_reducible refine wr_i64 rfl ?ha ?hb ?_); (case ha => exact gB); (case hb => exact gB)) | ((with_reducible refine wr_u64 rfl ?ha ?hb ?_); (case ha => exact gB); (case hb => exact gB)) | ((with_reducible refine wr_u32 rfl ?ha ?hb ?_); (case ha => exact gB); (case hb => exact gB)) | ((with_reducible refine And.intro ?_ ?_)) | ((with_reducible refine True.intro)) | ((with_reducible refine Stp.go ?_)) | skip))
        all_goals first | exact ⟨.sb (has b x), .inl (by rw [hfx]; simp_all [keepC]), [(0, 0)], rfl, ⟨rfl, rfl, rfl, rfl, rfl, rfl, rfl, rfl, rfl, trivial⟩, ⟨rfl, trivial⟩⟩ | exact ⟨.sb (!has b x), .inl (by rw [hfx]; simp_all [keepC]), [(0, 0)], rfl, ⟨rfl, rfl, rfl, rfl, rfl, rfl, rfl, rfl, rfl, trivial⟩, ⟨rfl, trivial⟩⟩ | exact ⟨.v (.bool true), .inr (by rw [hfx]; simp_all [keepC]), [(0, 0)], rfl, ⟨rfl, rfl, rfl, rfl, rfl, rfl, rfl, rfl, rfl, trivial⟩, ⟨rfl, trivial⟩⟩ | exact ⟨.v (.bool false), .inr (by rw [hfx]; simp_all [keepC]), [(0, 0)], rfl, ⟨rfl, rfl, rfl, rfl, rfl, rfl, rfl, rfl, rfl, trivial⟩, ⟨rfl, trivial⟩⟩ | exact ⟨.sb (has a x || has b x), .inl (by rw [hfx]; simp_all [keepC]), [(0, 0)], rfl, ⟨rfl, rfl, rfl, rfl, rfl, rfl, rfl, rfl, rfl, trivial⟩, ⟨rfl, trivial⟩⟩ | exact ⟨.v (.bool (has a x || has b x)), .inr (by rw [hfx]; simp_all [keepC]), [(0, 0)], rfl, ⟨rfl, rfl, rfl, rfl, rfl, rfl, rfl, rfl, rfl, trivial⟩, ⟨rfl, trivial⟩⟩
      clear hy y
      intro y hy
      (conv => whnf)
      refine Jn.intro Unit (fun _ => ⟨1, [(0, .arr 2 (out.map encR))], [(0, encRs a), (1, encRs b), (2, .v (.int .i64 c)), (3, .v (.int .u32 top)), (9, encUs st), (10, .os 0 2 0 out.length), (11, .v (.int .i64 k)), (12, .v (.int .u64 to))]⟩) (fun _ => f x = true) ?_ ?_
      · have out18 : f x = false → keepS f out (x, to) = out := fun h => by simp [keepS, h]
        cases hb : f x
        all_goals
          rw [hb] at hy
          rcases hy with rfl | rfl
        all_goals iterate 8 (all_goals ((conv => whnf); first | (with_reducible refine in_map hkl ?_) | (with_reducible refine br_t rfl ?_) | (with_reducible refine br_f rfl ?_) | ((with_reducible refine sl_full ?ha ?_); (case ha => exact gA)) | ((with_reducible refine Ob.intro ?ha ?_); (case ha => exact gC)) | ((with_reducible refine br_lt ?_)) | ((with_reducible refine br_lf ?_)) | ((with_reducible refine br_pos ?ha ?_); (case ha => exact gB)) | ((with_reducible refine br_neg ?ha ?_); (case ha => exact gB)) | ((with_reducible refine br_t ?ha ?_); (case ha => with_reducible assumption)) | ((with_reducible refine br_f ?ha ?_); (case ha => with_reducible assumption)) | ((with_reducible refine br_dec (fun h => ?_) (fun h => ?_))) | ((with_reducible refine br_not ?_)) | ((with_reducible refine br_b (fun h => ?_) (fun h => ?_))) | ((with_reducible refine wr_i64 rfl ?ha ?hb ?_); (case ha => exact gB); (case hb => exact gB)) | ((with_reducible refine wr_u64 rfl ?ha ?hb ?_); (case ha => exact gB); (case hb => exact gB)) | ((with_reducible refine wr_u32 rfl ?ha ?hb ?_); (case ha => exact gB); (case hb => exact gB)) | ((with_reducible refine And.intro ?_ ?_)) | ((with_reducible refine True.intro)) | ((with_reducible refine Stp.go ?_)) | skip))
        all_goals first
          | exact ⟨(), rfl, [(0, 0)], rfl, ⟨rfl, rfl, rfl, rfl, rfl, rfl, rfl, rfl, trivial⟩, ⟨rfl, trivial⟩⟩
          | exact next _ [] _ _ (by rw [out18 hb]) (by rw [out18 hb]) ⟨[(0, 0)], rfl, ⟨rfl, rfl, rfl, rfl, rfl, rfl, rfl, trivial⟩, ⟨rfl, trivial⟩⟩
      clear hy y
      intro _ hb
      rcases List.eq_nil_or_concat out with hnil | ⟨ini, r, hcat⟩
      · subst hnil
        iterate 20 (all_goals ((conv => whnf); first | (with_reducible refine in_map hkl ?_) | (with_reducible refine ix_map hx ?_) | ((with_reducible refine sl_full ?ha ?_); (case ha => exact gA)) | ((with_reducible refine Ob.intro ?ha ?_); (case ha => exact gC)) | ((with_reducible refine br_lt ?_)) | ((with_reducible refine br_lf ?_)) | ((with_reducible refine br_pos ?ha ?_); (case ha => exact gB)) | ((with_reducible refine br_neg ?ha ?_); (case ha => exact gB)) | ((with_reducible refine br_t ?ha ?_); (case ha => with_reducible assumption)) | ((with_reducible refine br_f ?ha ?_); (case ha => with_reducible assumption)) | ((with_reducible refine br_dec (fun h => ?_) (fun h => ?_))) | ((with_reducible refine br_not ?_)) | ((with_reducible refine br_b (fun h => ?_) (fun h => ?_))) | ((with_reducible refine wr_i64 rfl ?ha ?hb ?_); (case ha => exact gB); (case hb => exact gB)) | ((with_reducible refine wr_u64 rfl ?ha ?hb ?_); (case ha => exact gB); (case hb => exact gB)) | ((with_reducible refine wr_u32 rfl ?ha ?hb ?_); (case ha => exact gB); (case hb => exact gB)) | ((with_reducible refine And.intro ?_ ?_)) | ((with_reducible refine True.intro)) | ((with_reducible refine Stp.go ?_)) | skip))
        exact next _ [] _ _ (by simp only [keepS, hb, if_true, List.getLast?_nil, List.map_cons, List.map_nil, List.nil_append]; rw [enc_mkR (by omega) (by omega) (by omega) (by omega)]) (by simp [keepS, hb]) ⟨[(0, 2)], rfl, ⟨rfl, rfl, rfl, rfl, rfl, rfl, rfl, trivial⟩, ⟨rfl, trivial⟩⟩
      · rw [List.concat_eq_append] at hcat
        subst hcat
        have b1 := r.l0; have b2 := r.l1; have b3 := r.h0; have b4 := r.h1
        have hr : (ini ++ [r])[ini.length]? = some r := by simp
        have hr0 : (ini ++ [r])[0 + ini.length]? = some r := by simp
        have hj : ((((ini ++ [r]).length : Nat) : Int) - 1 = ini.length) ∧ ini.length < (ini ++ [r]).length := by simp
        iterate 40 (all_goals ((conv => whnf); first | (with_reducible refine in_map hkl ?_) | (with_reducible refine ix_map hx ?_) | (with_reducible refine In.intro ini.length hj.1 hj.2 ?_) | (with_reducible refine ix_map hr ?_) | (with_reducible refine ix_map hr0 ?_) | ((with_reducible refine sl_full ?ha ?_); (case ha => exact gA)) | ((with_reducible refine Ob.intro ?ha ?_); (case ha => exact gC)) | ((with_reducible refine br_lt ?_)) | ((with_reducible refine br_lf ?_)) | ((with_reducible refine br_pos ?ha ?_); (case ha => exact gB)) | ((with_reducible refine br_neg ?ha ?_); (case ha => exact gB)) | ((with_reducible refine br_t ?ha ?_); (case ha => with_reducible assumption)) | ((with_reducible refine br_f ?ha ?_); (case ha => with_reducible assumption)) | ((with_reducible refine br_dec (fun h => ?_) (fun h => ?_))) | ((with_reducible refine br_not ?_)) | ((with_reducible refine br_b (fun h => ?_) (fun h => ?_))) | ((with_reducible refine wr_i64 rfl ?ha ?hb ?_); (case ha => exact gB); (case hb => exact gB)) | ((with_reducible refine wr_u64 rfl ?ha ?hb ?_); (case ha => exact gB); (case hb => exact gB)) | ((with_reducible refine wr_u32 rfl ?ha ?hb ?_); (case ha => exact gB); (case hb => exact gB)) | ((with_reducible refine And.intro ?_ ?_)) | ((with_reducible refine True.intro)) | ((with_reducible refine Stp.go ?_)) | skip))
        · have e : keepS f (ini ++ [r]) (x, to) = ini ++ [mkR r.lo to] := by
            simp only [keepS, hb, if_true, List.getLast?_append, List.getLast?_singleton, Option.some_or, List.dropLast_concat]
            rw [if_pos (by assumption)]
          refine next _ [] _ _ ?_ ?_ ⟨[(0, 0)], rfl, ⟨rfl, rfl, rfl, rfl, rfl, rfl, rfl, trivial⟩, ⟨rfl, trivial⟩⟩
          · rw [e, List.map_append, List.map_append, List.set_append_right _ _ (by simp)]
            simp only [List.map_cons, List.map_nil, List.length_map, Nat.zero_add, Nat.sub_self, List.set_cons_zero]
            rw [enc_mkR (by omega) (by omega) (by omega) (by omega)]
          · rw [e]; simp
        · have e : keepS f (ini ++ [r]) (x, to) = ini ++ [r] ++ [mkR x to] := by
            simp only [keepS, hb, if_true, List.getLast?_append, List.getLast?_singleton, Option.some_or, List.dropLast_concat]
            rw [if_neg (by assumption)]
          refine next _ [] _ _ ?_ ?_ ⟨[(0, 2)], rfl, ⟨rfl, rfl, rfl, rfl, rfl, rfl, rfl, trivial⟩, ⟨rfl, trivial⟩⟩
          · rw [e, List.map_append (l₁ := ini ++ [r]), List.map_cons, List.map_nil, enc_mkR (by omega) (by omega) (by omega) (by omega)]
          · rw [e]; simp
    · have hkk : ((segs top st).take k).foldl (keepS f) [] = keepL f st top := by
        rw [List.take_of_length_le (by rw [segs_length]; exact hkl)]; rfl
      rw [hkk]
      iterate 8 (all_goals ((conv => whnf); first | (with_reducible refine in_map hkl ?_) | ((with_reducible refine sl_full ?ha ?_); (case ha => exact gA)) | ((with_reducible refine Ob.intro ?ha ?_); (case ha => exact gC)) | ((with_reducible refine br_lt ?_)) | ((with_reducible refine br_lf ?_)) | ((with_reducible refine br_pos ?ha ?_); (case ha => exact gB)) | ((with_reducible refine br_neg ?ha ?_); (case ha => exact gB)) | ((with_reducible refine br_t ?ha ?_); (case ha => with_reducible assumption)) | ((with_reducible refine br_f ?ha ?_); (case ha => with_reducible assumption)) | ((with_reducible refine br_dec (fun h => ?_) (fun h => ?_))) | ((with_reducible refine br_not ?_)) | ((with_reducible refine br_b (fun h => ?_) (fun h => ?_))) | ((with_reducible refine wr_i64 rfl ?ha ?hb ?_); (case ha => exact gB); (case hb => exact gB)) | ((with_reducible refine wr_u64 rfl ?ha ?hb ?_); (case ha => exact gB); (case hb => exact gB)) | ((with_reducible refine wr_u32 rfl ?ha ?hb ?_); (case ha => exact gB); (case hb => exact gB)) | ((with_reducible refine And.intro ?_ ?_)) | ((with_reducible refine True.intro)) | ((with_reducible refine Stp.go ?_)) | skip))
      exact hK

end Go.Proofs.YtgcplfplbcpemaaGreat

set_option linter.unusedVariables false
set_option linter.unusedSimpArgs false
set_option maxRecDepth 20000
namespace Go.Proofs.YtgcplfplbcpemaaGreat
open Go Go.Vm

def Canon (l : List Rg) : Prop := (∀ r, r ∈ l → r.lo ≤ r.hi) ∧ l.Pairwise fun r s => r.hi + 1 < s.lo

theorem Rg.ext' {r s : Rg} (h1 : r.lo = s.lo) (h2 : r.hi = s.hi) : r = s := by cases r; cases s; simp_all

theorem canon_ext : ∀ {l m : List Rg}, Canon l → Canon m → (∀ v, has l v = has m v) → l = m
  | [], [], _, _, _ => rfl
  | [], s :: m, _, hm, h => by
    have h1 := h s.lo
    have h2 : has (s :: m) s.lo = true := has_iff.2 ⟨s, by simp, Int.le_refl _, hm.1 s (by simp)⟩
    rw [h2] at h1; simp [has] at h1
  | r :: l, [], hl, _, h => by
    have h1 := h r.lo
    have h2 : has (r :: l) r.lo = true := has_iff.2 ⟨r, by simp, Int.le_refl _, hl.1 r (by simp)⟩
    rw [h2] at h1; simp [has] at h1
  | r :: l, s :: m, hl, hm, h => by
    have hr := hl.1 r (by simp)
    have hs := hm.1 s (by simp)
    have pl := (List.pairwise_cons.1 hl.2).1
    have pm := (List.pairwise_cons.1 hm.2).1
    have mem : ∀ {r : Rg} {l : List Rg} {v : Int}, has (r :: l) v = true → (∀ s, s ∈ l → r.hi + 1 < s.lo) → r.lo ≤ r.hi → r.lo ≤ v ∧ (v ≤ r.hi ∨ r.hi + 1 < v) := by
      intro r l v h hp hr
      obtain ⟨t, ht, h1, h2⟩ := has_iff.1 h
      rcases List.mem_cons.1 ht with rfl | ht
      · omega
      · have := hp t ht; omega
    have a1 := mem (v := r.lo) ((h r.lo).symm.trans (has_iff.2 ⟨r, by simp, Int.le_refl _, hr⟩)) pm hs
    have a2 := mem (v := s.lo) ((h s.lo).trans (has_iff.2 ⟨s, by simp, Int.le_refl _, hs⟩)) pl hr
    have elo : r.lo = s.lo := by omega
    have ehi : r.hi = s.hi := by
      rcases Int.lt_trichotomy r.hi s.hi with hlt | heq | hgt
      · have := mem (v := r.hi + 1) ((h (r.hi + 1)).trans (has_iff.2 ⟨s, by simp, by omega, by omega⟩)) pl hr
        omega
      · exact heq
      · have := mem (v := s.hi + 1) ((h (s.hi + 1)).symm.trans (has_iff.2 ⟨r, by simp, by omega, by omega⟩)) pm hs
        omega
    have ers : r = s := Rg.ext' elo ehi
    subst ers
    have htl : l = m := by
      refine canon_ext ⟨fun t ht => hl.1 t (by simp [ht]), (List.pairwise_cons.1 hl.2).2⟩ ⟨fun t ht => hm.1 t (by simp [ht]), (List.pairwise_cons.1 hm.2).2⟩ fun v => ?_
      have key : ∀ {l m : List Rg}, (∀ s, s ∈ l → r.hi + 1 < s.lo) → (∀ v, has (r :: l) v = has (r :: m) v) → has l v = true → has m v = true := by
        intro l m hp hh hv
        obtain ⟨t, ht, h1, h2⟩ := has_iff.1 hv
        have h3 : has (r :: m) v = true := (hh v).symm.trans (has_iff.2 ⟨t, by simp [ht], h1, h2⟩)
        obtain ⟨u, hu, h4, h5⟩ := has_iff.1 h3
        rcases List.mem_cons.1 hu with rfl | hu
        · have := hp t ht; omega
        · exact has_iff.2 ⟨u, hu, h4, h5⟩
      rw [Bool.eq_iff_iff]
      exact ⟨key pl h, key pm fun v => (h v).symm⟩
    rw [htl]

theorem has_append (l m : List Rg) (v : Int) : has (l ++ m) v = (has l v || has m v) := by simp [has]
theorem has_one (r : Rg) (v : Int) : has [r] v = (decide (r.lo ≤ v) && decide (v ≤ r.hi)) := by simp [has]

theorem canon_append_one {l : List Rg} {r : Rg} (hl : Canon l) (hr : r.lo ≤ r.hi) (hp : ∀ s, s ∈ l → s.hi + 1 < r.lo) : Canon (l ++ [r]) := by
  refine ⟨fun s hs => ?_, ?_⟩
  · rcases List.mem_append.1 hs with hs | hs
    · exact hl.1 s hs
    · simp at hs; subst hs; exact hr
  · rw [List.pairwise_append]
    refine ⟨hl.2, by simp, fun s hs t ht => ?_⟩
    simp at ht; subst ht; exact hp s hs

structure KInv (f : Int → Bool) (out : List Rg) (p : Int) : Prop where
  canon : Canon out
  mem : ∀ v, has out v = (decide (0 ≤ v) && (decide (v < p) && f v))
  below : ∀ r, r ∈ out → r.hi < p

theorem keepS_inv {f : Int → Bool} {out : List Rg} {p to : Int} (h : KInv f out p) (h0 : 0 ≤ p) (h1 : p ≤ to) (h2 : to ≤ 4294967295) (hc : ∀ v, p ≤ v → v ≤ to → f v = f p) : KInv f (keepS f out (p, to)) (to + 1) := by
  have mem_of : ∀ (o : List Rg), (∀ v, has o v = (has out v || (decide (p ≤ v) && decide (v ≤ to)))) → f p = true → ∀ v, has o v = (decide (0 ≤ v) && (decide (v < to + 1) && f v)) := by
    intro o ho hf v
    rw [ho, h.mem, Bool.eq_iff_iff]
    simp only [Bool.or_eq_true, Bool.and_eq_true, decide_eq_true_eq]
    constructor
    · rintro (⟨a, b, c⟩ | ⟨a, b⟩)
      · exact ⟨a, by omega, c⟩
      · exact ⟨by omega, by omega, by rw [hc v a b]; exact hf⟩
    · rintro ⟨a, b, c⟩
      rcases Int.lt_or_le v p with hv | hv
      · exact .inl ⟨a, hv, c⟩
      · exact .inr ⟨hv, by omega⟩
  unfold keepS
  simp only
  cases hf : f p with
  | false =>
    simp only [Bool.false_eq_true, if_false]
    refine ⟨h.canon, fun v => ?_, fun r hr => by have := h.below r hr; omega⟩
    rw [h.mem, Bool.eq_iff_iff]
    simp only [Bool.and_eq_true, decide_eq_true_eq]
    constructor
    · rintro ⟨a, b, c⟩; exact ⟨a, by omega, c⟩
    · rintro ⟨a, b, c⟩
      refine ⟨a, ?_, c⟩
      rcases Int.lt_or_le v p with hv | hv
      · exact hv
      · have := hc v hv (by omega); rw [c, hf] at this; cases this
  | true =>
    simp only [if_true]
    rcases List.eq_nil_or_concat out with hnil | ⟨ini, r, hcat⟩
    · subst hnil
      simp only [List.getLast?_nil]
      refine ⟨?_, mem_of _ (fun v => ?_) hf, fun r hr => ?_⟩
      · have := canon_append_one h.canon (r := mkR p to) (by rw [mkR_lo (by omega) (by omega) (by omega) (by omega), mkR_hi (by omega) (by omega) (by omega) (by omega)]; omega) (fun s hs => by simp at hs)
        simpa using this
      · rw [has_one, mkR_lo (by omega) (by omega) (by omega) (by omega), mkR_hi (by omega) (by omega) (by omega) (by omega)]
        simp [has]
      · simp at hr; subst hr; rw [mkR_hi (by omega) (by omega) (by omega) (by omega)]; omega
    · rw [List.concat_eq_append] at hcat
      subst hcat
      simp only [List.getLast?_append, List.getLast?_singleton, Option.some_or, List.dropLast_concat]
      have hrp := h.below r (by simp)
      have hpw := List.pairwise_append.1 h.canon.2
      have hr1 := h.canon.1 r (by simp)
      split
      · rename_i he
        have b1 := r.l0; have b2 := r.l1
        have ci : Canon ini := ⟨fun t ht => h.canon.1 t (by simp [ht]), hpw.1⟩
        refine ⟨canon_append_one ci (by rw [mkR_lo (by omega) (by omega) (by omega) (by omega), mkR_hi (by omega) (by omega) (by omega) (by omega)]; omega) (fun s hs => ?_), mem_of _ (fun v => ?_) hf, fun t ht => ?_⟩
        · rw [mkR_lo (by omega) (by omega) (by omega) (by omega)]
          exact hpw.2.2 s hs r (by simp)
        · rw [has_append, has_append, has_one, has_one, mkR_lo (by omega) (by omega) (by omega) (by omega), mkR_hi (by omega) (by omega) (by omega) (by omega), Bool.eq_iff_iff]
          simp only [Bool.or_eq_true, Bool.and_eq_true, decide_eq_true_eq]
          constructor
          · rintro (a | ⟨a, b⟩)
            · exact .inl (.inl a)
            · rcases Int.lt_or_le v p with hv | hv
              · exact .inl (.inr ⟨a, by omega⟩)
              · exact .inr ⟨hv, b⟩
          · rintro ((a | ⟨a, b⟩) | ⟨a, b⟩)
            · exact .inl a
            · exact .inr ⟨a, by omega⟩
            · exact .inr ⟨by omega, b⟩
        · rcases List.mem_append.1 ht with ht | ht
          · have := h.below t (by simp [ht]); omega
          · simp at ht; subst ht; rw [mkR_hi (by omega) (by omega) (by omega) (by omega)]; omega
      · rename_i he
        refine ⟨canon_append_one h.canon (by rw [mkR_lo (by omega) (by omega) (by omega) (by omega), mkR_hi (by omega) (by omega) (by omega) (by omega)]; omega) (fun s hs => ?_), mem_of _ (fun v => ?_) hf, fun t ht => ?_⟩
        · rw [mkR_lo (by omega) (by omega) (by omega) (by omega)]
          rcases List.mem_append.1 hs with hs | hs
          · have := hpw.2.2 s hs r (by simp); omega
          · simp at hs; subst hs; omega
        · rw [has_append, has_one, mkR_lo (by omega) (by omega) (by omega) (by omega), mkR_hi (by omega) (by omega) (by omega) (by omega)]
        · rcases List.mem_append.1 ht with ht | ht
          · have := h.below t ht; omega
          · simp at ht; subst ht; rw [mkR_hi (by omega) (by omega) (by omega) (by omega)]; omega

theorem fold_inv {f : Int → Bool} {top : Int} (htop : top ≤ 4294967295) : ∀ (st : List Int) (p : Int) (out : List Rg), KInv f out p → (p :: st).Pairwise (· < ·) → (∀ x, x ∈ p :: st → 0 ≤ x ∧ x ≤ top) →
    (∀ s, s ∈ segs top (p :: st) → ∀ v, s.1 ≤ v → v ≤ s.2 → f v = f s.1) → KInv f ((segs top (p :: st)).foldl (keepS f) out) (top + 1)
  | [], p, out, h, hp, hb, hc => by
    have := hb p (by simp)
    exact keepS_inv h (by omega) (by omega) htop (hc (p, top) (by simp [segs]))
  | q :: st, p, out, h, hp, hb, hc => by
    have h1 := hb p (by simp)
    have h2 := hb q (by simp)
    have h3 : p < q := (List.pairwise_cons.1 hp).1 q (by simp)
    have k := keepS_inv (to := q - 1) h (by omega) (by omega) (by omega) (hc (p, q - 1) (by simp [segs]))
    rw [show q - 1 + 1 = q by omega] at k
    exact fold_inv htop st q _ k (List.pairwise_cons.1 hp).2 (fun x hx => hb x (by simp at hx ⊢; exact .inr hx)) (fun s hs => hc s (by simp only [segs, List.mem_cons]; exact .inr hs))

end Go.Proofs.YtgcplfplbcpemaaGreat

set_option linter.unusedVariables false
set_option linter.unusedSimpArgs false
set_option maxRecDepth 20000
namespace Go.Proofs.YtgcplfplbcpemaaGreat
open Go Go.Vm

theorem mem_ins : ∀ {l : List Int} {v x : Int}, x ∈ ins l v ↔ x ∈ l ∨ x = v
  | [], v, x => by simp [ins]
  | y :: l, v, x => by
    simp only [ins]
    split
    · rw [List.mem_cons, mem_ins (l := l), List.mem_cons, or_assoc]
    · split
      · rename_i h; subst h
        simp only [List.mem_cons]
        constructor
        · intro h; exact .inl h
        · rintro (h | h)
          · exact h
          · exact .inl h
      · simp only [List.mem_cons]
        constructor
        · rintro (h | h | h)
          · exact .inr h
          · exact .inl (.inl h)
          · exact .inl (.inr h)
        · rintro ((h | h) | h)
          · exact .inr (.inl h)
          · exact .inr (.inr h)
          · exact .inl h
theorem ins_sorted : ∀ {l : List Int} {v : Int}, l.Pairwise (· < ·) → (ins l v).Pairwise (· < ·)
  | [], v, h => by simp [ins]
  | y :: l, v, h => by
    have ⟨h1, h2⟩ := List.pairwise_cons.1 h
    simp only [ins]
    split
    · rename_i hy
      refine List.pairwise_cons.2 ⟨fun x hx => ?_, ins_sorted h2⟩
      rcases mem_ins.1 hx with hx | rfl
      · exact h1 x hx
      · exact hy
    · split
      · exact h
      · rename_i h3 h4
        refine List.pairwise_cons.2 ⟨fun x hx => ?_, h⟩
        rcases List.mem_cons.1 hx with rfl | hx
        · omega
        · have := h1 x hx; omega

structure SInv (top : Int) (out : List Int) : Prop where
  sorted : out.Pairwise (· < ·)
  zero : ∃ r, out = 0 :: r
  range : ∀ x, x ∈ out → 0 ≤ x ∧ x ≤ top

theorem SInv.insT {top v : Int} {out : List Int} (h : SInv top out) (hv : 0 ≤ v) : SInv top (insT out v top) := by
  unfold Go.Proofs.YtgcplfplbcpemaaGreat.insT
  split
  · exact h
  · refine ⟨ins_sorted h.sorted, ?_, fun x hx => ?_⟩
    · obtain ⟨r, hr⟩ := h.zero
      subst hr
      simp only [ins]
      split
      · exact ⟨_, rfl⟩
      · split
        · exact ⟨_, rfl⟩
        · omega
    · rcases mem_ins.1 hx with hx | rfl
      · exact h.range x hx
      · omega
theorem SInv.stP {top : Int} {out : List Int} {r : Rg} (h : SInv top out) : SInv top (stP top out r) := by
  unfold Go.Proofs.YtgcplfplbcpemaaGreat.stP
  split
  · exact (h.insT r.l0).insT (by have := r.h0; omega)
  · exact h
theorem mem_insT {l : List Int} {v top x : Int} : x ∈ insT l v top ↔ x ∈ l ∨ (x = v ∧ x ≤ top) := by
  unfold insT
  split
  · constructor
    · exact .inl
    · rintro (h | ⟨rfl, h⟩)
      · exact h
      · omega
  · rw [mem_ins]
    constructor
    · rintro (h | rfl)
      · exact .inl h
      · exact .inr ⟨rfl, by omega⟩
    · rintro (h | ⟨h, _⟩)
      · exact .inl h
      · exact .inr h
theorem stP_mono {top : Int} {out : List Int} {r : Rg} {x : Int} (h : x ∈ out) : x ∈ stP top out r := by
  unfold stP
  split
  · exact mem_insT.2 (.inl (mem_insT.2 (.inl h)))
  · exact h
theorem fold_stP : ∀ (l : List Rg) {top : Int} {out : List Int}, SInv top out → SInv top (l.foldl (stP top) out) ∧ (∀ x, x ∈ out → x ∈ l.foldl (stP top) out) ∧
    (∀ r, r ∈ l → r.lo ≤ r.hi → (r.lo ≤ top → r.lo ∈ l.foldl (stP top) out) ∧ (r.hi + 1 ≤ top → r.hi + 1 ∈ l.foldl (stP top) out)) ∧ (l.foldl (stP top) out).length ≤ out.length + 2 * l.length
  | [], top, out, h => ⟨h, fun x hx => hx, fun r hr => by simp at hr, by simp⟩
  | r :: l, top, out, h => by
    obtain ⟨h1, h2, h3, h4⟩ := fold_stP l (h.stP (r := r))
    refine ⟨h1, fun x hx => h2 x (stP_mono hx), fun s hs hle => ?_, ?_⟩
    · rcases List.mem_cons.1 hs with rfl | hs
      · refine ⟨fun ht => h2 _ ?_, fun ht => h2 _ ?_⟩
        · unfold stP; rw [if_pos hle]; exact mem_insT.2 (.inl (mem_insT.2 (.inr ⟨rfl, ht⟩)))
        · unfold stP; rw [if_pos hle]; exact mem_insT.2 (.inr ⟨rfl, ht⟩)
      · exact h3 s hs hle
    · have := stP_length top out r
      simp only [List.foldl_cons, List.length_cons]
      omega

theorem starts_inv (l : List Rg) {top : Int} (ht : 0 ≤ top) : SInv top (starts l top) := (fold_stP l ⟨by simp, ⟨[], rfl⟩, fun x hx => by simp at hx; subst hx; omega⟩).1
theorem starts_mem (l : List Rg) {top : Int} (ht : 0 ≤ top) {r : Rg} (hr : r ∈ l) (hle : r.lo ≤ r.hi) : (r.lo ≤ top → r.lo ∈ starts l top) ∧ (r.hi + 1 ≤ top → r.hi + 1 ∈ starts l top) :=
  (fold_stP l ⟨by simp, ⟨[], rfl⟩, fun x hx => by simp at hx; subst hx; omega⟩).2.2.1 r hr hle
theorem starts_length (l : List Rg) {top : Int} (ht : 0 ≤ top) : (starts l top).length ≤ 2 * l.length + 1 := by
  have := (fold_stP (top := top) l (out := [0]) ⟨by simp, ⟨[], rfl⟩, fun x hx => by simp at hx; subst hx; omega⟩).2.2.2
  simp only [starts, List.length_cons, List.length_nil] at this ⊢; omega

theorem segs_spec : ∀ (st : List Int) {top : Int}, st.Pairwise (· < ·) → (∀ x, x ∈ st → x ≤ top) → ∀ s, s ∈ segs top st → s.2 ≤ top ∧ s.1 ∈ st ∧ ∀ x, x ∈ st → ¬ (s.1 < x ∧ x ≤ s.2)
  | [], top, _, _, s, hs => by simp [segs] at hs
  | [p], top, hp, hb, s, hs => by
    simp [segs] at hs; subst hs
    exact ⟨Int.le_refl _, by simp, fun x hx => by simp at hx; subst hx; omega⟩
  | p :: q :: st, top, hp, hb, s, hs => by
    simp only [segs, List.mem_cons] at hs
    have ⟨h1, h2⟩ := List.pairwise_cons.1 hp
    rcases hs with rfl | hs
    · refine ⟨by have := hb q (by simp); simp only; omega, by simp, fun x hx => ?_⟩
      rcases List.mem_cons.1 hx with rfl | hx
      · simp only; omega
      · rcases List.mem_cons.1 hx with rfl | hx
        · simp only; omega
        · have := (List.pairwise_cons.1 h2).1 x hx; simp only; omega
    · obtain ⟨a, b, c⟩ := segs_spec (q :: st) h2 (fun x hx => hb x (by simp at hx ⊢; exact .inr hx)) s (by simpa [segs] using hs)
      refine ⟨a, by simp at b ⊢; exact .inr b, fun x hx => ?_⟩
      rcases List.mem_cons.1 hx with rfl | hx
      · have := h1 s.1 b; omega
      · exact c x hx

/-- between two starts nothing changes -/
theorem has_const {l a : List Rg} {top : Int} (ht : 0 ≤ top) (hsub : ∀ r, r ∈ a → r ∈ l) {s : Int × Int} (hs : s ∈ segs top (starts l top)) {v : Int} (h1 : s.1 ≤ v) (h2 : v ≤ s.2) : has a v = has a s.1 := by
  have inv := starts_inv l ht
  obtain ⟨g1, g2, g3⟩ := segs_spec _ inv.sorted (fun x hx => (inv.range x hx).2) s hs
  rw [Bool.eq_iff_iff, has_iff, has_iff]
  constructor
  · rintro ⟨r, hr, a1, a2⟩
    refine ⟨r, hr, ?_, by omega⟩
    rcases Int.lt_or_le s.1 r.lo with h | h
    · exact absurd ⟨h, by omega⟩ (g3 r.lo ((starts_mem l ht (hsub r hr) (by omega)).1 (by omega)))
    · exact h
  · rintro ⟨r, hr, a1, a2⟩
    refine ⟨r, hr, by omega, ?_⟩
    rcases Int.lt_or_le r.hi v with h | h
    · exact absurd ⟨by omega, by omega⟩ (g3 (r.hi + 1) ((starts_mem l ht (hsub r hr) (by omega)).2 (by omega)))
    · exact h

theorem fold_keep_length (f : Int → Bool) : ∀ (l : List (Int × Int)) (out : List Rg), (l.foldl (keepS f) out).length ≤ out.length + l.length
  | [], out => by simp
  | s :: l, out => by
    have := keepS_length f out s
    have := fold_keep_length f l (keepS f out s)
    simp only [List.foldl_cons, List.length_cons]; omega

/-- nsgref2.keep as a set -/
theorem keep (a b : List Rg) (c top : Int) (ht0 : 0 ≤ top) (ht : top ≤ 4294967295) (ha : a.length < 10000) (hb : b.length < 10000)
    {K : AV → List Vm.Obj → Prop} (hK : ∀ out, Canon out → (∀ v, has out v = (decide (0 ≤ v) && (decide (v < top + 1) && keepC c (has a v) (has b v)))) → out.length ≤ 2 * (a.length + b.length) + 1 → K (encRs out) []) :
    ACall Tryz.prog 83 [encRs a, encRs b, .v (.int .i64 c), .v (.int .u32 top)] [] K := by
  have inv := starts_inv (a ++ b) ht0
  have hl := starts_length (a ++ b) ht0
  obtain ⟨r0, hr0⟩ := inv.zero
  rw [List.length_append] at hl
  refine c38 a b c top ht0 ht ha hb inv.range (fun k x hx => ?_) (by omega) ?_
  · rw [hr0] at hx
    have := (List.pairwise_cons.1 (hr0 ▸ inv.sorted)).1 x (List.mem_of_getElem? (by simpa using hx))
    omega
  · have hk : KInv (fun v => keepC c (has a v) (has b v)) (keepL (fun v => keepC c (has a v) (has b v)) (starts (a ++ b) top) top) (top + 1) := by
      unfold keepL
      have hseg : ∀ s, s ∈ segs top (starts (a ++ b) top) → ∀ v, s.1 ≤ v → v ≤ s.2 → (fun v => keepC c (has a v) (has b v)) v = (fun v => keepC c (has a v) (has b v)) s.1 := by
        intro s hs v h1 h2
        simp only
        rw [has_const ht0 (fun r hr => List.mem_append.2 (.inl hr)) hs h1 h2, has_const ht0 (fun r hr => List.mem_append.2 (.inr hr)) hs h1 h2]
      have hsort := inv.sorted
      have hrange := inv.range
      rw [hr0] at hseg hsort hrange ⊢
      refine fold_inv ht r0 0 [] ⟨⟨fun r hr => by simp at hr, by simp⟩, fun v => ?_, fun r hr => by simp at hr⟩ hsort hrange hseg
      rw [Bool.eq_iff_iff]
      simp only [has, List.any_nil, Bool.false_eq_true, Bool.and_eq_true, decide_eq_true_eq, false_iff]
      omega
    refine hK _ hk.canon hk.mem ?_
    have := fold_keep_length (fun v => keepC c (has a v) (has b v)) (segs top (starts (a ++ b) top)) []
    rw [segs_length] at this
    unfold keepL
    simp only [List.length_nil] at this
    omega

end Go.Proofs.YtgcplfplbcpemaaGreat

set_option linter.unusedVariables false
set_option linter.unusedSimpArgs false
set_option maxRecDepth 20000
namespace Go.Proofs.YtgcplfplbcpemaaGreat
open Go Go.Vm

theorem has_bounds {l : List Rg} {v : Int} (h : has l v = true) : 0 ≤ v ∧ v ≤ 4294967295 := by
  obtain ⟨r, _, h1, h2⟩ := has_iff.1 h
  have := r.l0; have := r.h1
  omega
theorem has_nil (v : Int) : has [] v = false := rfl

/-- nsgref2.Union -/
theorem c14 (a b : List Rg) (ha : a.length < 10000) (hb : b.length < 10000) {K : AV → List Vm.Obj → Prop} (hK : ∀ out, Canon out → (∀ v, has out v = (has a v || has b v)) → out.length ≤ 2 * (a.length + b.length) + 1 → K (encRs out) []) :
    ACall Tryz.prog 84 [encRs a, encRs b] [] K := by
  refine of14 rfl rfl ?_
  (conv => whnf)
  refine keep a b 0 4294967295 (by omega) (by omega) ha hb fun out h1 h2 h3 => ?_
  (conv => whnf)
  refine hK out h1 (fun v => ?_) h3
  rw [h2, Bool.eq_iff_iff]
  simp only [Bool.and_eq_true, decide_eq_true_eq, keepC, Bool.or_eq_true, reduceCtorEq, Int.reduceEq, if_false]
  constructor
  · rintro ⟨_, _, h⟩; exact h
  · intro h
    have := h.elim has_bounds has_bounds
    exact ⟨by omega, by omega, h⟩
/-- nsgref2.Subtract -/
theorem c43 (a b : List Rg) (ha : a.length < 10000) (hb : b.length < 10000) {K : AV → List Vm.Obj → Prop} (hK : ∀ out, Canon out → (∀ v, has out v = (has a v && !has b v)) → out.length ≤ 2 * (a.length + b.length) + 1 → K (encRs out) []) :
    ACall Tryz.prog 62 [encRs a, encRs b] [] K := by
  refine of43 rfl rfl ?_
  (conv => whnf)
  refine keep a b 2 4294967295 (by omega) (by omega) ha hb fun out h1 h2 h3 => ?_
  (conv => whnf)
  refine hK out h1 (fun v => ?_) h3
  rw [h2, Bool.eq_iff_iff]
  simp only [Bool.and_eq_true, decide_eq_true_eq, keepC, Int.reduceEq, if_false, if_true]
  constructor
  · rintro ⟨_, _, h⟩; exact h
  · intro h
    have := has_bounds h.1
    exact ⟨by omega, by omega, h⟩
end Go.Proofs.YtgcplfplbcpemaaGreat

set_option linter.unusedVariables false
set_option maxRecDepth 20000
namespace Go.Proofs.YtgcplfplbcpemaaGreat
open Go Go.Vm

end Go.Proofs.YtgcplfplbcpemaaGreat

set_option linter.unusedVariables false
set_option linter.unusedSimpArgs false
set_option maxRecDepth 20000
namespace Go.Proofs.YtgcplfplbcpemaaGreat
open Go Go.Vm

theorem canon_nil : Canon [] := ⟨fun r hr => by simp at hr, by simp⟩
end Go.Proofs.YtgcplfplbcpemaaGreat

set_option linter.unusedVariables false
set_option linter.unusedSimpArgs false
set_option maxRecDepth 20000
namespace Go.Proofs.YtgcplfplbcpemaaGreat
open Go Go.Vm

end Go.Proofs.YtgcplfplbcpemaaGreat

set_option linter.unusedVariables false
set_option linter.unusedSimpArgs false
set_option maxRecDepth 20000
namespace Go.Proofs.YtgcplfplbcpemaaGreat
open Go Go.Vm

end Go.Proofs.YtgcplfplbcpemaaGreat

set_option linter.unusedVariables false
set_option maxRecDepth 20000
namespace Go.Proofs.YtgcplfplbcpemaaGreat
open Go Go.Vm

/-- netsegment/nsggen.Mod -/
noncomputable def g37 : Ctx := { N := 11, np := 0, own := fun _ => false, plan := fun _ => none, hints := fun _ => [], cut := fun _ => false }
noncomputable def b37 : Code := match Tryz.f39.body with | some c => c | none => .skip
theorem of37 {args : List AV} {hs : List Vm.Obj} {K : AV → List Vm.Obj → Prop} (hp : Nat.beq g37.np hs.length = true) (ha : Nat.ble args.length 11 = true) (hq : initQ hs args fun σ => codeQ Tryz.prog g37 b37 σ (retQ Tryz.prog g37 Tryz.f39.results.toList K)) : ACall Tryz.prog 39 args hs K :=
  ACall.of_code (Γ := g37) Tryz.func39 (by kernel_rfl) (by kernel_rfl) (by kernel_rfl) (by kernel_rfl) (Nat.eq_of_beq_eq_true hp) ha hq
/-- (*netsegment/nsggen.Tape).Next -/
noncomputable def g13 : Ctx := { N := 39, np := 1, own := fun _ => false, plan := fun i => match Nat.beq i 1 with | true => some (lin [(0, true), (1, true), (2, true), (3, true), (4, true), (5, true), (6, true), (7, true), (8, true), (9, true), (10, true), (11, true), (12, true), (13, true)]) | false => match Nat.beq i 4 with | true => some (lin [(0, true), (1, true), (2, true), (3, true), (4, true), (5, true), (6, true), (7, true), (8, true), (9, true), (10, true), (11, true), (12, false), (13, true)]) | false => none, hints := fun _ => [], cut := fun _ => false }
noncomputable def b13 : Code := match Tryz.f15.body with | some c => c | none => .skip
theorem of13 {args : List AV} {hs : List Vm.Obj} {K : AV → List Vm.Obj → Prop} (hp : Nat.beq g13.np hs.length = true) (ha : Nat.ble args.length 39 = true) (hq : initQ hs args fun σ => codeQ Tryz.prog g13 b13 σ (retQ Tryz.prog g13 Tryz.f15.results.toList K)) : ACall Tryz.prog 15 args hs K :=
  ACall.of_code (Γ := g13) Tryz.func15 (by kernel_rfl) (by kernel_rfl) (by kernel_rfl) (by kernel_rfl) (Nat.eq_of_beq_eq_true hp) ha hq
/-- netsegment/nsggen.New -/
noncomputable def g9 : Ctx := { N := 6, np := 0, own := fun _ => false, plan := fun _ => none, hints := fun _ => [], cut := fun _ => false }
noncomputable def b9 : Code := match Tryz.f5.body with | some c => c | none => .skip
theorem of9 {args : List AV} {hs : List Vm.Obj} {K : AV → List Vm.Obj → Prop} (hp : Nat.beq g9.np hs.length = true) (ha : Nat.ble args.length 6 = true) (hq : initQ hs args fun σ => codeQ Tryz.prog g9 b9 σ (retQ Tryz.prog g9 Tryz.f5.results.toList K)) : ACall Tryz.prog 5 args hs K :=
  ACall.of_code (Γ := g9) Tryz.func5 (by kernel_rfl) (by kernel_rfl) (by kernel_rfl) (by kernel_rfl) (Nat.eq_of_beq_eq_true hp) ha hq

end Go.Proofs.YtgcplfplbcpemaaGreat

set_option linter.unusedVariables false
set_option linter.unusedSimpArgs false
set_option maxRecDepth 20000
namespace Go.Proofs.YtgcplfplbcpemaaGreat
open Go Go.Vm

noncomputable abbrev encI (x : Int) : AV := .v (.int .i64 x)
noncomputable abbrev tapeO (raw : List Int) (pos : Nat) : Vm.Obj := .box [.lst (raw.map encI), .v (.int .i64 pos)]

/-- nsggen.New -/
theorem c9 (raw : List Int) {K : AV → List Vm.Obj → Prop} (hK : K (.op 0 0) [tapeO raw 0]) : ACall Tryz.prog 5 [.lst (raw.map encI)] [] K := by
  refine of9 rfl rfl ?_
  iterate 6 (all_goals ((conv => whnf); first | ((with_reducible refine sl_full ?ha ?_); (case ha => exact gA)) | ((with_reducible refine Ob.intro ?ha ?_); (case ha => exact gC)) | ((with_reducible refine br_lt ?_)) | ((with_reducible refine br_lf ?_)) | ((with_reducible refine br_pos ?ha ?_); (case ha => exact gB)) | ((with_reducible refine br_neg ?ha ?_); (case ha => exact gB)) | ((with_reducible refine br_t ?ha ?_); (case ha => with_reducible assumption)) | ((with_reducible refine br_f ?ha ?_); (case ha => with_reducible assumption)) | ((with_reducible refine br_dec (fun h => ?_) (fun h => ?_))) | ((with_reducible refine br_not ?_)) | ((with_reducible refine br_b (fun h => ?_) (fun h => ?_))) | ((with_reducible refine wr_i64 rfl ?ha ?hb ?_); (case ha => exact gB); (case hb => exact gB)) | ((with_reducible refine wr_u64 rfl ?ha ?hb ?_); (case ha => exact gB); (case hb => exact gB)) | ((with_reducible refine wr_u32 rfl ?ha ?hb ?_); (case ha => exact gB); (case hb => exact gB)) | ((with_reducible refine And.intro ?_ ?_)) | ((with_reducible refine True.intro)) | ((with_reducible refine Stp.go ?_)) | skip))
  exact hK
/-- nsggen.Mod -/
theorem c37 (x n : Int) (hn : 1 ≤ n) (hn2 : n ≤ 9223372036854775807) {K : AV → List Vm.Obj → Prop} (hK : ∀ m, 0 ≤ m → m < n → K (.v (.int .i64 m)) []) : ACall Tryz.prog 39 [.v (.int .i64 x), .v (.int .i64 n)] [] K := by
  refine of37 rfl rfl ?_
  (conv => whnf)
  refine wr_u64_any fun r h0 h1 => ?_
  have m0 : 0 ≤ r.tmod n := Int.tmod_nonneg n h0
  have m1 : r.tmod n < n := Int.tmod_lt_of_pos r (by omega)
  iterate 10 (all_goals ((conv => whnf); first | ((with_reducible refine sl_full ?ha ?_); (case ha => exact gA)) | ((with_reducible refine Ob.intro ?ha ?_); (case ha => exact gC)) | ((with_reducible refine br_lt ?_)) | ((with_reducible refine br_lf ?_)) | ((with_reducible refine br_pos ?ha ?_); (case ha => exact gB)) | ((with_reducible refine br_neg ?ha ?_); (case ha => exact gB)) | ((with_reducible refine br_t ?ha ?_); (case ha => with_reducible assumption)) | ((with_reducible refine br_f ?ha ?_); (case ha => with_reducible assumption)) | ((with_reducible refine br_dec (fun h => ?_) (fun h => ?_))) | ((with_reducible refine br_not ?_)) | ((with_reducible refine br_b (fun h => ?_) (fun h => ?_))) | ((with_reducible refine wr_i64 rfl ?ha ?hb ?_); (case ha => exact gB); (case hb => exact gB)) | ((with_reducible refine wr_u64 rfl ?ha ?hb ?_); (case ha => exact gB); (case hb => exact gB)) | ((with_reducible refine wr_u32 rfl ?ha ?hb ?_); (case ha => exact gB); (case hb => exact gB)) | ((with_reducible refine And.intro ?_ ?_)) | ((with_reducible refine True.intro)) | ((with_reducible refine Stp.go ?_)) | skip))
  exact hK _ m0 m1

/-- (*Tape).Next -/
theorem c13 (raw : List Int) (pos : Nat) (n : Int) (hn2 : n ≤ 9223372036854775807) (hp : pos ≤ raw.length) (hr : raw.length ≤ 9223372036854775807) {K : AV → List Vm.Obj → Prop}
    (hK : ∀ m pos', 0 ≤ m → (m = 0 ∨ m < n) → pos' ≤ raw.length → K (.v (.int .i64 m)) [tapeO raw pos']) : ACall Tryz.prog 15 [.op 0 0, .v (.int .i64 n)] [tapeO raw pos] K := by
  refine of13 rfl rfl ?_
  rcases Nat.lt_or_ge pos raw.length with hlt | hge
  · obtain ⟨x, hx⟩ : ∃ x, raw[pos]? = some x := ⟨_, List.getElem?_eq_getElem hlt⟩
    have hj : ((pos : Int) + 1 - 1 = pos) ∧ pos < (raw.map encI).length := by rw [List.length_map]; omega
    iterate 40 (all_goals ((conv => whnf); first | (with_reducible refine In.intro pos hj.1 hj.2 ?_) | (with_reducible refine ix_map hx ?_) | (with_reducible refine c37 _ _ (by omega) (by omega) (fun m m0 m1 => ?_)) | ((with_reducible refine sl_full ?ha ?_); (case ha => exact gA)) | ((with_reducible refine Ob.intro ?ha ?_); (case ha => exact gC)) | ((with_reducible refine br_lt ?_)) | ((with_reducible refine br_lf ?_)) | ((with_reducible refine br_pos ?ha ?_); (case ha => exact gB)) | ((with_reducible refine br_neg ?ha ?_); (case ha => exact gB)) | ((with_reducible refine br_t ?ha ?_); (case ha => with_reducible assumption)) | ((with_reducible refine br_f ?ha ?_); (case ha => with_reducible assumption)) | ((with_reducible refine br_dec (fun h => ?_) (fun h => ?_))) | ((with_reducible refine br_not ?_)) | ((with_reducible refine br_b (fun h => ?_) (fun h => ?_))) | ((with_reducible refine wr_i64 rfl ?ha ?hb ?_); (case ha => exact gB); (case hb => exact gB)) | ((with_reducible refine wr_u64 rfl ?ha ?hb ?_); (case ha => exact gB); (case hb => exact gB)) | ((with_reducible refine wr_u32 rfl ?ha ?hb ?_); (case ha => exact gB); (case hb => exact gB)) | ((with_reducible refine And.intro ?_ ?_)) | ((with_reducible refine True.intro)) | ((with_reducible refine Stp.go ?_)) | skip))
    · exact hK 0 pos (by omega) (by omega) hp
    · exact hK m (pos + 1) m0 (.inr m1) hlt
  · iterate 40 (all_goals ((conv => whnf); first | (with_reducible refine in_nat hlt ?_) | ((with_reducible refine sl_full ?ha ?_); (case ha => exact gA)) | ((with_reducible refine Ob.intro ?ha ?_); (case ha => exact gC)) | ((with_reducible refine br_lt ?_)) | ((with_reducible refine br_lf ?_)) | ((with_reducible refine br_pos ?ha ?_); (case ha => exact gB)) | ((with_reducible refine br_neg ?ha ?_); (case ha => exact gB)) | ((with_reducible refine br_t ?ha ?_); (case ha => with_reducible assumption)) | ((with_reducible refine br_f ?ha ?_); (case ha => with_reducible assumption)) | ((with_reducible refine br_dec (fun h => ?_) (fun h => ?_))) | ((with_reducible refine br_not ?_)) | ((with_reducible refine br_b (fun h => ?_) (fun h => ?_))) | ((with_reducible refine wr_i64 rfl ?ha ?hb ?_); (case ha => exact gB); (case hb => exact gB)) | ((with_reducible refine wr_u64 rfl ?ha ?hb ?_); (case ha => exact gB); (case hb => exact gB)) | ((with_reducible refine wr_u32 rfl ?ha ?hb ?_); (case ha => exact gB); (case hb => exact gB)) | ((with_reducible refine And.intro ?_ ?_)) | ((with_reducible refine True.intro)) | ((with_reducible refine Stp.go ?_)) | skip))
    all_goals exact hK 0 pos (by omega) (by omega) hp

/-- an entry of which no more is said than that P -/
theorem ix_all {xs : List AV} {i : Nat} {K : AV → Prop} (P : AV → Prop) (hP : ∀ x, x ∈ xs → P x) (hi : i < xs.length) (hk : ∀ x, P x → K x) : Ix xs i K :=
  Ix.intro (List.getElem?_eq_getElem hi) (hk _ (hP _ (List.getElem_mem hi)))
def IsU32 (x : AV) : Prop := ∃ y : Int, x = .v (.int .u32 y) ∧ 0 ≤ y ∧ y ≤ 4294967295

end Go.Proofs.YtgcplfplbcpemaaGreat

set_option linter.unusedVariables false
set_option maxRecDepth 20000
namespace Go.Proofs.YtgcplfplbcpemaaGreat
open Go Go.Vm

/-- netsegment/interval.canonical$1 -/
noncomputable def g47 : Ctx := { N := 10, np := 0, own := fun _ => false, plan := fun _ => none, hints := fun _ => [], cut := fun _ => false }
noncomputable def b47 : Code := match Tryz.f89.body with | some c => c | none => .skip
theorem of47 {args : List AV} {hs : List Vm.Obj} {K : AV → List Vm.Obj → Prop} (hp : Nat.beq g47.np hs.length = true) (ha : Nat.ble args.length 10 = true) (hq : initQ hs args fun σ => codeQ Tryz.prog g47 b47 σ (retQ Tryz.prog g47 Tryz.f89.results.toList K)) : ACall Tryz.prog 89 args hs K :=
  ACall.of_code (Γ := g47) Tryz.func89 (by kernel_rfl) (by kernel_rfl) (by kernel_rfl) (by kernel_rfl) (Nat.eq_of_beq_eq_true hp) ha hq
/-- cmp.Compare[uint32] -/
noncomputable def g48 : Ctx := { N := 20, np := 0, own := fun _ => false, plan := fun _ => none, hints := fun _ => [], cut := fun _ => false }
noncomputable def b48 : Code := match Tryz.f90.body with | some c => c | none => .skip
theorem of48 {args : List AV} {hs : List Vm.Obj} {K : AV → List Vm.Obj → Prop} (hp : Nat.beq g48.np hs.length = true) (ha : Nat.ble args.length 20 = true) (hq : initQ hs args fun σ => codeQ Tryz.prog g48 b48 σ (retQ Tryz.prog g48 Tryz.f90.results.toList K)) : ACall Tryz.prog 90 args hs K :=
  ACall.of_code (Γ := g48) Tryz.func90 (by kernel_rfl) (by kernel_rfl) (by kernel_rfl) (by kernel_rfl) (Nat.eq_of_beq_eq_true hp) ha hq
/-- cmp.isNaN[uint32] -/
noncomputable def g54 : Ctx := { N := 6, np := 0, own := fun _ => false, plan := fun _ => none, hints := fun _ => [], cut := fun _ => false }
noncomputable def b54 : Code := match Tryz.f98.body with | some c => c | none => .skip
theorem of54 {args : List AV} {hs : List Vm.Obj} {K : AV → List Vm.Obj → Prop} (hp : Nat.beq g54.np hs.length = true) (ha : Nat.ble args.length 6 = true) (hq : initQ hs args fun σ => codeQ Tryz.prog g54 b54 σ (retQ Tryz.prog g54 Tryz.f98.results.toList K)) : ACall Tryz.prog 98 args hs K :=
  ACall.of_code (Γ := g54) Tryz.func98 (by kernel_rfl) (by kernel_rfl) (by kernel_rfl) (by kernel_rfl) (Nat.eq_of_beq_eq_true hp) ha hq

end Go.Proofs.YtgcplfplbcpemaaGreat

set_option linter.unusedVariables false
set_option linter.unusedSimpArgs false
set_option maxRecDepth 20000
namespace Go.Proofs.YtgcplfplbcpemaaGreat
open Go Go.Vm

/-- cmp.isNaN -/
theorem c54 (x : Int) {K : AV → List Vm.Obj → Prop} (hK : K (.sb false) []) : ACall Tryz.prog 98 [.v (.int .u32 x)] [] K := by
  refine of54 rfl rfl ?_
  iterate 4 (all_goals ((conv => whnf); first | ((with_reducible refine sl_full ?ha ?_); (case ha => exact gA)) | ((with_reducible refine Ob.intro ?ha ?_); (case ha => exact gC)) | ((with_reducible refine br_lt ?_)) | ((with_reducible refine br_lf ?_)) | ((with_reducible refine br_pos ?ha ?_); (case ha => exact gB)) | ((with_reducible refine br_neg ?ha ?_); (case ha => exact gB)) | ((with_reducible refine br_t ?ha ?_); (case ha => with_reducible assumption)) | ((with_reducible refine br_f ?ha ?_); (case ha => with_reducible assumption)) | ((with_reducible refine br_dec (fun h => ?_) (fun h => ?_))) | ((with_reducible refine br_not ?_)) | ((with_reducible refine br_b (fun h => ?_) (fun h => ?_))) | ((with_reducible refine wr_i64 rfl ?ha ?hb ?_); (case ha => exact gB); (case hb => exact gB)) | ((with_reducible refine wr_u64 rfl ?ha ?hb ?_); (case ha => exact gB); (case hb => exact gB)) | ((with_reducible refine wr_u32 rfl ?ha ?hb ?_); (case ha => exact gB); (case hb => exact gB)) | ((with_reducible refine And.intro ?_ ?_)) | ((with_reducible refine True.intro)) | ((with_reducible refine Stp.go ?_)) | skip))
  have e : (!decide (x = x)) = false := by simp
  unfold one?
  rw [e]
  exact hK

end Go.Proofs.YtgcplfplbcpemaaGreat

set_option linter.unusedVariables false
set_option maxRecDepth 20000
namespace Go.Proofs.YtgcplfplbcpemaaGreat
open Go Go.Vm

/-- netsegment/interval.canonical -/
noncomputable def g39 : Ctx := { N := 72, np := 0, own := fun i => match Nat.beq i 88 with | true => true | false => false, plan := fun i => match Nat.beq i 13 with | true => some (lin [(0, true), (1, true), (2, true), (3, true), (4, true), (5, true), (6, true), (7, true), (8, true), (9, true), (10, true), (11, true), (12, true), (13, true), (14, true), (15, true)]) | false => match Nat.beq i 14 with | true => some (lin [(0, true), (1, true), (2, true), (3, true), (4, true), (5, true), (6, true), (7, true), (8, true), (9, true), (10, true), (11, true), (12, true), (13, true), (14, false)]) | false => none, hints := fun i => match Nat.beq i 2 with | true => [.virt 3 2, .virt 4 2] | false => [], cut := fun _ => false }
noncomputable def b39 : Code := match Tryz.f79.body with | some c => c | none => .skip
theorem of39 {args : List AV} {hs : List Vm.Obj} {K : AV → List Vm.Obj → Prop} (hp : Nat.beq g39.np hs.length = true) (ha : Nat.ble args.length 72 = true) (hq : initQ hs args fun σ => codeQ Tryz.prog g39 b39 σ (retQ Tryz.prog g39 Tryz.f79.results.toList K)) : ACall Tryz.prog 79 args hs K :=
  ACall.of_code (Γ := g39) Tryz.func79 (by kernel_rfl) (by kernel_rfl) (by kernel_rfl) (by kernel_rfl) (Nat.eq_of_beq_eq_true hp) ha hq

end Go.Proofs.YtgcplfplbcpemaaGreat

set_option linter.unusedVariables false
set_option linter.unusedSimpArgs false
set_option maxRecDepth 20000
namespace Go.Proofs.YtgcplfplbcpemaaGreat
open Go Go.Vm

/-- what slices.SortFunc does, with canonical's closure -/
def Sorts : Prop := ∀ (d : List Rg) (n : Nat), n = d.length → d.length < 1000000 → ∀ K : AV → List Vm.Obj → Prop, (∀ d' : List Rg, d'.Perm d → d'.Pairwise (fun r s => r.lo ≤ s.lo) → K (.tup []) [.arr 2 (d'.map encR)]) →
  ACall Tryz.prog 88 [.os 0 2 0 n, .fn (.func 89) [] []] [.arr 2 (d.map encR)] K

/-- one range more, laid onto the ranges so far -/
def mergeS (out : List Rg) (r : Rg) : List Rg :=
  match out.getLast? with
  | some p => if r.lo ≤ p.hi + 1 then out.dropLast ++ [mkR p.lo (max p.hi r.hi)] else out ++ [r]
  | none => [r]
theorem mergeS_length (out : List Rg) (r : Rg) : (mergeS out r).length ≤ out.length + 1 := by
  unfold mergeS
  split
  · split <;> simp
  · simp

theorem mergeS_inv {out : List Rg} {r : Rg} (hc : Canon out) (hlo : ∀ p, p ∈ out → p.lo ≤ r.lo) (hr : r.lo ≤ r.hi) : Canon (mergeS out r) ∧ (∀ v, has (mergeS out r) v = (has out v || has [r] v)) ∧ ∀ p, p ∈ mergeS out r → p.lo ≤ r.lo := by
  have b1 := r.l0; have b2 := r.l1; have b3 := r.h0; have b4 := r.h1
  unfold mergeS
  rcases List.eq_nil_or_concat out with hnil | ⟨ini, p, hcat⟩
  · subst hnil
    refine ⟨?_, fun v => by simp [has], fun p hp => by simp at hp; subst hp; exact Int.le_refl _⟩
    have := canon_append_one canon_nil hr (fun s hs => by simp at hs)
    simpa using this
  · rw [List.concat_eq_append] at hcat
    subst hcat
    simp only [List.getLast?_append, List.getLast?_singleton, Option.some_or, List.dropLast_concat]
    have p1 := p.l0; have p2 := p.l1; have p3 := p.h0; have p4 := p.h1
    have hpw := List.pairwise_append.1 hc.2
    have hp1 := hc.1 p (by simp)
    have hp2 := hlo p (by simp)
    have hx : 0 ≤ max p.hi r.hi ∧ max p.hi r.hi ≤ 4294967295 := by omega
    split
    · rename_i he
      have ci : Canon ini := ⟨fun t ht => hc.1 t (by simp [ht]), hpw.1⟩
      refine ⟨canon_append_one ci (by rw [mkR_lo p1 p2 hx.1 hx.2, mkR_hi p1 p2 hx.1 hx.2]; omega) (fun s hs => by rw [mkR_lo p1 p2 hx.1 hx.2]; exact hpw.2.2 s hs p (by simp)), fun v => ?_, fun q hq => ?_⟩
      · rw [has_append, has_append, has_one, has_one, has_one, mkR_lo p1 p2 hx.1 hx.2, mkR_hi p1 p2 hx.1 hx.2, Bool.or_assoc]
        congr 1
        rw [Bool.eq_iff_iff]
        simp only [Bool.or_eq_true, Bool.and_eq_true, decide_eq_true_eq]
        omega
      · rcases List.mem_append.1 hq with hq | hq
        · exact hlo q (by simp [hq])
        · simp at hq; subst hq; rw [mkR_lo p1 p2 hx.1 hx.2]; exact hp2
    · rename_i he
      refine ⟨canon_append_one hc hr (fun s hs => ?_), fun v => has_append _ _ v, fun q hq => ?_⟩
      · rcases List.mem_append.1 hs with hs | hs
        · have := hpw.2.2 s hs p (by simp); omega
        · simp at hs; subst hs; omega
      · rcases List.mem_append.1 hq with hq | hq
        · exact hlo q hq
        · simp at hq; subst hq; exact Int.le_refl _
theorem fold_merge : ∀ (d out : List Rg), Canon out → (∀ p, p ∈ out → ∀ r, r ∈ d → p.lo ≤ r.lo) → d.Pairwise (fun r s => r.lo ≤ s.lo) → (∀ r, r ∈ d → r.lo ≤ r.hi) →
    Canon (d.foldl mergeS out) ∧ (∀ v, has (d.foldl mergeS out) v = (has out v || has d v)) ∧ (d.foldl mergeS out).length ≤ out.length + d.length
  | [], out, hc, _, _, _ => ⟨hc, fun v => by simp [has], by simp⟩
  | r :: d, out, hc, hlo, hp, hok => by
    have ⟨hp1, hp2⟩ := List.pairwise_cons.1 hp
    obtain ⟨h1, h2, h3⟩ := mergeS_inv hc (fun p hpm => hlo p hpm r (by simp)) (hok r (by simp))
    obtain ⟨g1, g2, g3⟩ := fold_merge d (mergeS out r) h1 (fun p hpm s hs => Int.le_trans (h3 p hpm) (hp1 s hs)) hp2 (fun s hs => hok s (by simp [hs]))
    refine ⟨g1, fun v => ?_, ?_⟩
    · rw [List.foldl_cons, g2, h2, Bool.or_assoc, ← has_append]; rfl
    · have := mergeS_length out r
      simp only [List.foldl_cons, List.length_cons]; omega

def okR (r : Rg) : Bool := decide (r.lo ≤ r.hi)
/-- interval.canonical -/
theorem c39 (hs : Sorts) (l : List Rg) (hl : l.length < 100000) {K : AV → List Vm.Obj → Prop} (hK : ∀ c, Canon c → (∀ v, has c v = has l v) → c.length ≤ l.length → K (encRs c) []) : ACall Tryz.prog 79 [encRs l] [] K := by
  refine of39 rfl rfl ?_
  (conv => whnf)
  refine Lp.intro Nat (fun k => ⟨2, [(0, .arr 2 (((l.take k).filter okR).map encR)), (1, .arr 2 [])], [(3, .os 0 2 0 ((l.take k).filter okR).length), (4, .os 1 2 0 0), (10, encRs l), (11, .v (.int .i64 (l.map encR).length)), (12, .v (.int .i64 k))]⟩) (fun k => k ≤ l.length) (fun k => l.length - k) 0 ?_ ?_ ?_
  · exact Nat.zero_le _
  · exact ⟨[(0, 0), (1, 1)], rfl, ⟨rfl, rfl, rfl, rfl, rfl, trivial⟩, ⟨rfl, rfl, trivial⟩⟩
  · intro k hk
    rcases Nat.lt_or_ge k l.length with hkl | hkl
    · obtain ⟨r, hr⟩ : ∃ r, l[k]? = some r := ⟨_, List.getElem?_eq_getElem hkl⟩
      have b1 := r.l0; have b2 := r.l1; have b3 := r.h0; have b4 := r.h1
      have e : (l.take (k + 1)).filter okR = (l.take k).filter okR ++ (if r.lo ≤ r.hi then [r] else []) := by
        rw [List.take_add_one, hr, Option.toList_some, List.filter_append]
        simp only [okR, List.filter_cons, List.filter_nil, decide_eq_true_eq]
      have hlen : ((l.take k).filter okR).length ≤ l.length := Nat.le_trans (List.length_filter_le _ _) (by rw [List.length_take]; omega)
      iterate 30 (all_goals ((conv => whnf); first | (with_reducible refine in_map hkl ?_) | (with_reducible refine ix_map hr ?_) | ((with_reducible refine sl_full ?ha ?_); (case ha => exact gA)) | ((with_reducible refine Ob.intro ?ha ?_); (case ha => exact gC)) | ((with_reducible refine br_lt ?_)) | ((with_reducible refine br_lf ?_)) | ((with_reducible refine br_pos ?ha ?_); (case ha => exact gB)) | ((with_reducible refine br_neg ?ha ?_); (case ha => exact gB)) | ((with_reducible refine br_t ?ha ?_); (case ha => with_reducible assumption)) | ((with_reducible refine br_f ?ha ?_); (case ha => with_reducible assumption)) | ((with_reducible refine br_dec (fun h => ?_) (fun h => ?_))) | ((with_reducible refine br_not ?_)) | ((with_reducible refine br_b (fun h => ?_) (fun h => ?_))) | ((with_reducible refine wr_i64 rfl ?ha ?hb ?_); (case ha => exact gB); (case hb => exact gB)) | ((with_reducible refine wr_u64 rfl ?ha ?hb ?_); (case ha => exact gB); (case hb => exact gB)) | ((with_reducible refine wr_u32 rfl ?ha ?hb ?_); (case ha => exact gB); (case hb => exact gB)) | ((with_reducible refine And.intro ?_ ?_)) | ((with_reducible refine True.intro)) | ((with_reducible refine Stp.go ?_)) | skip))
      · refine ⟨k + 1, by omega, by omega, ?_⟩
        rw [e, if_pos (by assumption), List.map_append, List.length_append]
        exact ⟨[(0, 4), (1, 1)], rfl, ⟨rfl, rfl, rfl, rfl, rfl, trivial⟩, ⟨rfl, rfl, trivial⟩⟩
      · refine ⟨k + 1, by omega, by omega, ?_⟩
        rw [e, if_neg (by assumption), List.append_nil]
        exact ⟨[(0, 0), (1, 1)], rfl, ⟨rfl, rfl, rfl, rfl, rfl, trivial⟩, ⟨rfl, rfl, trivial⟩⟩
    · rw [List.take_of_length_le hkl]
      have hlen : (l.filter okR).length ≤ l.length := List.length_filter_le _ _
      iterate 6 (all_goals ((conv => whnf); first | (with_reducible refine in_map hkl ?_) | ((with_reducible refine sl_full ?ha ?_); (case ha => exact gA)) | ((with_reducible refine Ob.intro ?ha ?_); (case ha => exact gC)) | ((with_reducible refine br_lt ?_)) | ((with_reducible refine br_lf ?_)) | ((with_reducible refine br_pos ?ha ?_); (case ha => exact gB)) | ((with_reducible refine br_neg ?ha ?_); (case ha => exact gB)) | ((with_reducible refine br_t ?ha ?_); (case ha => with_reducible assumption)) | ((with_reducible refine br_f ?ha ?_); (case ha => with_reducible assumption)) | ((with_reducible refine br_dec (fun h => ?_) (fun h => ?_))) | ((with_reducible refine br_not ?_)) | ((with_reducible refine br_b (fun h => ?_) (fun h => ?_))) | ((with_reducible refine wr_i64 rfl ?ha ?hb ?_); (case ha => exact gB); (case hb => exact gB)) | ((with_reducible refine wr_u64 rfl ?ha ?hb ?_); (case ha => exact gB); (case hb => exact gB)) | ((with_reducible refine wr_u32 rfl ?ha ?hb ?_); (case ha => exact gB); (case hb => exact gB)) | ((with_reducible refine And.intro ?_ ?_)) | ((with_reducible refine True.intro)) | ((with_reducible refine Stp.go ?_)) | skip))
      refine hs (l.filter okR) _ rfl (by omega) _ fun d hperm hsort => ?_
      have hn : (l.filter okR).length = d.length := hperm.length_eq.symm
      rw [hn]
      (conv => whnf)
      refine Lp.intro Nat (fun k => ⟨2, [(0, .arr 2 (d.map encR)), (1, .arr 2 (((d.take k).foldl mergeS []).map encR))], [(4, .os 1 2 0 ((d.take k).foldl mergeS []).length), (28, .os 0 2 0 d.length), (29, .v (.int .i64 d.length)), (30, .v (.int .i64 k))]⟩) (fun k => k ≤ d.length ∧ ((d.take k).foldl mergeS []).length ≤ k) (fun k => d.length - k) 0 ?_ ?_ ?_
      · exact ⟨Nat.zero_le _, by simp⟩
      · exact ⟨[(0, 0), (1, 1)], rfl, ⟨rfl, rfl, rfl, rfl, trivial⟩, ⟨rfl, rfl, trivial⟩⟩
      · intro k ⟨hk, hle⟩
        rcases Nat.lt_or_ge k d.length with hkl | hkl
        · obtain ⟨r, hr⟩ : ∃ r, d[k]? = some r := ⟨_, List.getElem?_eq_getElem hkl⟩
          have hr0 : d[0 + k]? = some r := by rw [Nat.zero_add]; exact hr
          have b1 := r.l0; have b2 := r.l1; have b3 := r.h0; have b4 := r.h1
          have hs2 := foldl_succ (f := mergeS) (b := []) hr
          generalize hout : (d.take k).foldl mergeS [] = out at hs2 hle ⊢
          have hj : (k : Int) < (d.length : Int) := by omega
          rcases List.eq_nil_or_concat out with hnil | ⟨ini, p, hcat⟩
          · subst hnil
            iterate 30 (all_goals ((conv => whnf); first | (with_reducible refine In.intro k rfl (by omega) ?_) | (with_reducible refine ix_map hr ?_) | (with_reducible refine ix_map hr0 ?_) | ((with_reducible refine sl_full ?ha ?_); (case ha => exact gA)) | ((with_reducible refine Ob.intro ?ha ?_); (case ha => exact gC)) | ((with_reducible refine br_lt ?_)) | ((with_reducible refine br_lf ?_)) | ((with_reducible refine br_pos ?ha ?_); (case ha => exact gB)) | ((with_reducible refine br_neg ?ha ?_); (case ha => exact gB)) | ((with_reducible refine br_t ?ha ?_); (case ha => with_reducible assumption)) | ((with_reducible refine br_f ?ha ?_); (case ha => with_reducible assumption)) | ((with_reducible refine br_dec (fun h => ?_) (fun h => ?_))) | ((with_reducible refine br_not ?_)) | ((with_reducible refine br_b (fun h => ?_) (fun h => ?_))) | ((with_reducible refine wr_i64 rfl ?ha ?hb ?_); (case ha => exact gB); (case hb => exact gB)) | ((with_reducible refine wr_u64 rfl ?ha ?hb ?_); (case ha => exact gB); (case hb => exact gB)) | ((with_reducible refine wr_u32 rfl ?ha ?hb ?_); (case ha => exact gB); (case hb => exact gB)) | ((with_reducible refine And.intro ?_ ?_)) | ((with_reducible refine True.intro)) | ((with_reducible refine Stp.go ?_)) | skip))
            refine ⟨k + 1, ⟨by omega, by rw [hs2]; simp [mergeS]⟩, by omega, ?_⟩
            rw [hs2, show mergeS [] r = [r] from rfl]
            exact ⟨[(0, 0), (1, 4)], rfl, ⟨rfl, rfl, rfl, rfl, trivial⟩, ⟨rfl, rfl, trivial⟩⟩
          · rw [List.concat_eq_append] at hcat
            subst hcat
            have p1 := p.l0; have p2 := p.l1; have p3 := p.h0; have p4 := p.h1
            have hp : (ini ++ [p])[ini.length]? = some p := by simp
            have hp0 : (ini ++ [p])[0 + ini.length]? = some p := by simp
            have hi : ((((ini ++ [p]).length : Nat) : Int) - 1 = ini.length) ∧ ini.length < (ini ++ [p]).length := by simp
            iterate 40 (all_goals ((conv => whnf); first | (with_reducible refine In.intro k rfl (by omega) ?_) | (with_reducible refine ix_map hr ?_) | (with_reducible refine ix_map hr0 ?_) | (with_reducible refine In.intro ini.length hi.1 hi.2 ?_) | (with_reducible refine ix_map hp ?_) | (with_reducible refine ix_map hp0 ?_) | ((with_reducible refine sl_full ?ha ?_); (case ha => exact gA)) | ((with_reducible refine Ob.intro ?ha ?_); (case ha => exact gC)) | ((with_reducible refine br_lt ?_)) | ((with_reducible refine br_lf ?_)) | ((with_reducible refine br_pos ?ha ?_); (case ha => exact gB)) | ((with_reducible refine br_neg ?ha ?_); (case ha => exact gB)) | ((with_reducible refine br_t ?ha ?_); (case ha => with_reducible assumption)) | ((with_reducible refine br_f ?ha ?_); (case ha => with_reducible assumption)) | ((with_reducible refine br_dec (fun h => ?_) (fun h => ?_))) | ((with_reducible refine br_not ?_)) | ((with_reducible refine br_b (fun h => ?_) (fun h => ?_))) | ((with_reducible refine wr_i64 rfl ?ha ?hb ?_); (case ha => exact gB); (case hb => exact gB)) | ((with_reducible refine wr_u64 rfl ?ha ?hb ?_); (case ha => exact gB); (case hb => exact gB)) | ((with_reducible refine wr_u32 rfl ?ha ?hb ?_); (case ha => exact gB); (case hb => exact gB)) | ((with_reducible refine And.intro ?_ ?_)) | ((with_reducible refine True.intro)) | ((with_reducible refine Stp.go ?_)) | skip))
            · have e : mergeS (ini ++ [p]) r = ini ++ [mkR p.lo (max p.hi r.hi)] := by
                simp only [mergeS, List.getLast?_append, List.getLast?_singleton, Option.some_or, List.dropLast_concat]
                rw [if_pos (by assumption)]
              refine ⟨k + 1, ⟨by omega, by rw [hs2]; have := mergeS_length (ini ++ [p]) r; omega⟩, by omega, ?_⟩
              rw [hs2, e, List.map_append, List.map_cons, List.map_nil, enc_mkR (by omega) (by omega) (by omega) (by omega)]
              have e2 : (ini.map encR ++ [.agg [.v (.int .u32 p.lo), .v (.int .u32 (max p.hi r.hi))]]) = ((ini ++ [p]).map encR).set (0 + ini.length) (.agg [.v (.int .u32 p.lo), .v (.int .u32 (max p.hi r.hi))]) := by
                rw [List.map_append, List.set_append_right _ _ (by simp)]
                simp
              rw [e2, show (ini ++ [mkR p.lo (max p.hi r.hi)]).length = (ini ++ [p]).length by simp]
              exact ⟨[(0, 0), (1, 1)], rfl, ⟨rfl, rfl, rfl, rfl, trivial⟩, ⟨rfl, rfl, trivial⟩⟩
            · have e : mergeS (ini ++ [p]) r = ini ++ [p] ++ [r] := by
                simp only [mergeS, List.getLast?_append, List.getLast?_singleton, Option.some_or, List.dropLast_concat]
                rw [if_neg (by assumption)]
              refine ⟨k + 1, ⟨by omega, by rw [hs2]; have := mergeS_length (ini ++ [p]) r; omega⟩, by omega, ?_⟩
              rw [hs2, e, List.map_append (l₁ := ini ++ [p]), show (ini ++ [p] ++ [r]).length = (ini ++ [p]).length + 1 from by simp]
              exact ⟨[(0, 0), (1, 4)], rfl, ⟨rfl, rfl, rfl, rfl, trivial⟩, ⟨rfl, rfl, trivial⟩⟩
        · rw [List.take_of_length_le hkl] at hle ⊢
          iterate 8 (all_goals ((conv => whnf); first | ((with_reducible refine sl_full ?ha ?_); (case ha => exact gA)) | ((with_reducible refine Ob.intro ?ha ?_); (case ha => exact gC)) | ((with_reducible refine br_lt ?_)) | ((with_reducible refine br_lf ?_)) | ((with_reducible refine br_pos ?ha ?_); (case ha => exact gB)) | ((with_reducible refine br_neg ?ha ?_); (case ha => exact gB)) | ((with_reducible refine br_t ?ha ?_); (case ha => with_reducible assumption)) | ((with_reducible refine br_f ?ha ?_); (case ha => with_reducible assumption)) | ((with_reducible refine br_dec (fun h => ?_) (fun h => ?_))) | ((with_reducible refine br_not ?_)) | ((with_reducible refine br_b (fun h => ?_) (fun h => ?_))) | ((with_reducible refine wr_i64 rfl ?ha ?hb ?_); (case ha => exact gB); (case hb => exact gB)) | ((with_reducible refine wr_u64 rfl ?ha ?hb ?_); (case ha => exact gB); (case hb => exact gB)) | ((with_reducible refine wr_u32 rfl ?ha ?hb ?_); (case ha => exact gB); (case hb => exact gB)) | ((with_reducible refine And.intro ?_ ?_)) | ((with_reducible refine True.intro)) | ((with_reducible refine Stp.go ?_)) | skip))
          have hok : ∀ r, r ∈ d → r.lo ≤ r.hi := fun r hr => by
            have := (List.mem_filter.1 (hperm.subset hr)).2
            simpa [okR] using this
          obtain ⟨g1, g2, g3⟩ := fold_merge d [] canon_nil (fun p hp => by simp at hp) hsort hok
          refine hK _ g1 (fun v => ?_) (by simp only [List.length_nil] at g3; omega)
          rw [g2, has_nil, Bool.false_or, Bool.eq_iff_iff, has_iff, has_iff]
          constructor
          · rintro ⟨r, hr, h1, h2⟩
            exact ⟨r, (List.mem_filter.1 (hperm.subset hr)).1, h1, h2⟩
          · rintro ⟨r, hr, h1, h2⟩
            refine ⟨r, hperm.symm.subset (List.mem_filter.2 ⟨hr, ?_⟩), h1, h2⟩
            simp only [okR, decide_eq_true_eq]; omega

end Go.Proofs.YtgcplfplbcpemaaGreat

set_option linter.unusedVariables false
set_option maxRecDepth 20000
namespace Go.Proofs.YtgcplfplbcpemaaGreat
open Go Go.Vm

/-- netsegment/interval.Complement -/
noncomputable def g23 : Ctx := { N := 51, np := 0, own := fun _ => false, plan := fun _ => none, hints := fun i => match Nat.beq i 2 with | true => [.virt 5 2] | false => [], cut := fun _ => false }
noncomputable def b23 : Code := match Tryz.f55.body with | some c => c | none => .skip
theorem of23 {args : List AV} {hs : List Vm.Obj} {K : AV → List Vm.Obj → Prop} (hp : Nat.beq g23.np hs.length = true) (ha : Nat.ble args.length 51 = true) (hq : initQ hs args fun σ => codeQ Tryz.prog g23 b23 σ (retQ Tryz.prog g23 Tryz.f55.results.toList K)) : ACall Tryz.prog 55 args hs K :=
  ACall.of_code (Γ := g23) Tryz.func55 (by kernel_rfl) (by kernel_rfl) (by kernel_rfl) (by kernel_rfl) (Nat.eq_of_beq_eq_true hp) ha hq

end Go.Proofs.YtgcplfplbcpemaaGreat

set_option linter.unusedVariables false
set_option linter.unusedSimpArgs false
set_option maxRecDepth 20000
namespace Go.Proofs.YtgcplfplbcpemaaGreat
open Go Go.Vm

end Go.Proofs.YtgcplfplbcpemaaGreat

set_option linter.unusedVariables false
set_option maxRecDepth 20000
namespace Go.Proofs.YtgcplfplbcpemaaGreat
open Go Go.Vm

end Go.Proofs.YtgcplfplbcpemaaGreat

set_option linter.unusedVariables false
set_option linter.unusedSimpArgs false
set_option maxRecDepth 20000
namespace Go.Proofs.YtgcplfplbcpemaaGreat
open Go Go.Vm

def cmpI (x y : Int) : Int := if x < y then -1 else if y < x then 1 else 0

/-- cmp.Compare -/
theorem c48 (x y : Int) {K : AV → List Vm.Obj → Prop} (hK : K (.v (.int .i64 (cmpI x y))) []) : ACall Tryz.prog 90 [.v (.int .u32 x), .v (.int .u32 y)] [] K := by
  refine of48 rfl rfl ?_
  iterate 20 (all_goals ((conv => whnf); first | (with_reducible refine c54 _ ?_) | ((with_reducible refine sl_full ?ha ?_); (case ha => exact gA)) | ((with_reducible refine Ob.intro ?ha ?_); (case ha => exact gC)) | ((with_reducible refine br_lt ?_)) | ((with_reducible refine br_lf ?_)) | ((with_reducible refine br_pos ?ha ?_); (case ha => exact gB)) | ((with_reducible refine br_neg ?ha ?_); (case ha => exact gB)) | ((with_reducible refine br_t ?ha ?_); (case ha => with_reducible assumption)) | ((with_reducible refine br_f ?ha ?_); (case ha => with_reducible assumption)) | ((with_reducible refine br_dec (fun h => ?_) (fun h => ?_))) | ((with_reducible refine br_not ?_)) | ((with_reducible refine br_b (fun h => ?_) (fun h => ?_))) | ((with_reducible refine wr_i64 rfl ?ha ?hb ?_); (case ha => exact gB); (case hb => exact gB)) | ((with_reducible refine wr_u64 rfl ?ha ?hb ?_); (case ha => exact gB); (case hb => exact gB)) | ((with_reducible refine wr_u32 rfl ?ha ?hb ?_); (case ha => exact gB); (case hb => exact gB)) | ((with_reducible refine And.intro ?_ ?_)) | ((with_reducible refine True.intro)) | ((with_reducible refine Stp.go ?_)) | skip))
  all_goals
    unfold cmpI at hK
  · rw [if_pos (by assumption)] at hK; exact hK
  · rw [if_neg (by assumption), if_pos (by assumption)] at hK; exact hK
  · rw [if_neg (by assumption), if_neg (by assumption)] at hK; exact hK

/-- canonical's closure -/
theorem c47 (r s : Rg) {K : AV → List Vm.Obj → Prop} (hK : K (.v (.int .i64 (cmpI r.lo s.lo))) []) : ACall Tryz.prog 89 [.agg [.v (.int .u32 r.lo), .v (.int .u32 r.hi)], .agg [.v (.int .u32 s.lo), .v (.int .u32 s.hi)]] [] K := by
  refine of47 rfl rfl ?_
  iterate 6 (all_goals ((conv => whnf); first | (with_reducible refine c48 _ _ ?_) | ((with_reducible refine sl_full ?ha ?_); (case ha => exact gA)) | ((with_reducible refine Ob.intro ?ha ?_); (case ha => exact gC)) | ((with_reducible refine br_lt ?_)) | ((with_reducible refine br_lf ?_)) | ((with_reducible refine br_pos ?ha ?_); (case ha => exact gB)) | ((with_reducible refine br_neg ?ha ?_); (case ha => exact gB)) | ((with_reducible refine br_t ?ha ?_); (case ha => with_reducible assumption)) | ((with_reducible refine br_f ?ha ?_); (case ha => with_reducible assumption)) | ((with_reducible refine br_dec (fun h => ?_) (fun h => ?_))) | ((with_reducible refine br_not ?_)) | ((with_reducible refine br_b (fun h => ?_) (fun h => ?_))) | ((with_reducible refine wr_i64 rfl ?ha ?hb ?_); (case ha => exact gB); (case hb => exact gB)) | ((with_reducible refine wr_u64 rfl ?ha ?hb ?_); (case ha => exact gB); (case hb => exact gB)) | ((with_reducible refine wr_u32 rfl ?ha ?hb ?_); (case ha => exact gB); (case hb => exact gB)) | ((with_reducible refine And.intro ?_ ?_)) | ((with_reducible refine True.intro)) | ((with_reducible refine Stp.go ?_)) | skip))
  exact hK

end Go.Proofs.YtgcplfplbcpemaaGreat

