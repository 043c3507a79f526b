/- An abstract machine over the loaded code: structs compared. The reference's boxes. The reference's packet sets: parts of lists. Packet sets: one segment after the other. The reference's packet sets: rests: the canonical form of what an operation makes of two lists. The reference's packet sets: valid boxes, the limit, lists held against each other. The reference's packet sets: which lists are canonical. The reference's packet sets: Valid, Make, what is given, operations. -/
import Derived.ChangeKeysEq
import Derived.Test.YtokmdghjgegclaaGreatDoorM10
set_option linter.unusedVariables false
set_option linter.unusedSimpArgs false
namespace Go.Vm

/-- a part of a struct's cells -/
def partV (P : Program) (t : TypeId) (xs : List Value) (off : Nat) : Option Value :=
  match tagg P t with
  | some true => (match tsz P t with
    | some n => some (.agg ((xs.drop off).take n).toArray)
    | none => none)
  | some false => xs[off]?
  | none => none
/-- two values compared -/
def eqT (P : Program) : Nat → TypeId → Value → Value → Option Bool
  | 0, _, _, _ => none
  | d + 1, t, x, y => match P.underlying t with
    | some (.int _) => (match x, y with
      | .int k a, .int k' b => (match kEq k k' with
        | true => some (a == b)
        | false => none)
      | _, _ => none)
    | some .bool => (match x, y with
      | .bool a, .bool b => some (a == b)
      | _, _ => none)
    | some .string => (match x, y with
      | .string a, .string b => some (a.toList == b.toList)
      | _, _ => none)
    | some (.struct fs) => (match P.stoodInHeld t, x, y with
      | false, .agg xs, .agg ys => eqFs (fun t a b => eqT P d t a b) xs.toList ys.toList fs.toList
      | _, _, _ => none)
    | some (.array n e) => (match tsz P e, x, y with
      | some m, .agg xs, .agg ys => eqIs (fun a b => eqT P d e a b) e m xs.toList ys.toList (List.range n)
      | _, _, _ => none)
    | _ => none
where
  eqIs (e : Value → Value → Option Bool) (el : TypeId) (m : Nat) (xs ys : List Value) : List Nat → Option Bool
    | [] => some true
    | i :: r => (match partV P el xs (i * m), partV P el ys (i * m) with
      | some a, some b => (match e a b, eqIs e el m xs ys r with
        | some p, some q => some (p && q)
        | _, _ => none)
      | _, _ => none)
  eqFs (e : TypeId → Value → Value → Option Bool) (xs ys : List Value) : List Field → Option Bool
    | [] => some true
    | f :: r => match f.name == "_" with
      | true => eqFs e xs ys r
      | false => (match partV P f.type xs f.offset, partV P f.type ys f.offset with
        | some a, some b => (match e f.type a b, eqFs e xs ys r with
          | some p, some q => some (p && q)
          | _, _ => none)
        | _, _ => none)

section
variable {P : Program}
theorem partV_run {t : TypeId} {xs : Array Value} {off : Nat} {v : Value} (h : partV P t xs.toList off = some v) (w : World) : (part t xs off).run P w = .ok v w := by
  unfold partV at h
  split at h
  · rename_i ht
    split at h
    · rename_i n hn
      cases h
      have e : (xs.extract off (off + n)) = ((xs.toList.drop off).take n).toArray := by
        apply Array.ext'
        rw [Array.toList_extract]
        simp [List.extract]
      simp [part, run_isAgg ht, tsz_spec hn, e]
    · cases h
  · rename_i ht
    have h' : xs[off]? = some v := by simpa using h
    simp [part, run_isAgg ht, h']
  · cases h
theorem eqT_run : ∀ (d : Nat) {t : TypeId} {x y : Value} {b : Bool}, eqT P d t x y = some b → ∀ (D : Nat) (w : World), d ≤ D → (Op.equalIn D t x y).run P w = .ok b w
  | 0, t, x, y, b, h => by simp [eqT] at h
  | d + 1, t, x, y, b, h => by
    intro D w hD
    obtain ⟨D, rfl⟩ : ∃ k, D = k + 1 := ⟨D - 1, by omega⟩
    simp only [eqT] at h
    split at h
    · rename_i q hu
      split at h
      · split at h
        · rename_i hk
          cases kEq_eq hk
          cases h
          exact run_equalIn_int w D t _ _ _ _ hu
        · cases h
      · cases h
    · rename_i hu
      split at h
      · cases h; exact run_equalIn_bool' w D t _ _ hu
      · cases h
    · rename_i hu
      split at h
      · cases h; exact run_equalIn_string w D t _ _ hu
      · cases h
    · rename_i fs hu
      split at h
      · rename_i xs ys hs
        have hf : P.fieldsOf t = fs := by simp [Program.fieldsOf, hu]
        rw [run_equalIn_struct w D t xs ys (by rw [hf]; exact hu) hs, hf]
        have go : ∀ (l : List Field) (b : Bool), eqT.eqFs P (fun t a b => eqT P d t a b) xs.toList ys.toList l = some b → (Op.eqFields D xs ys l).run P w = .ok b w := by
          intro l
          induction l with
          | nil => intro b h; simp only [eqT.eqFs, Option.some.injEq] at h; subst h; simp [Op.eqFields]
          | cons f r ih =>
            intro b h
            simp only [eqT.eqFs] at h
            split at h
            · rename_i hn
              have hn : f.name = "_" := by simpa using hn
              simp only [Op.eqFields, hn, ne_eq, not_true_eq_false, if_false]
              exact ih b h
            · rename_i hn
              have hn : f.name ≠ "_" := by simpa using hn
              split at h
              case h_2 => cases h
              rename_i a c ha hc
              split at h
              case h_2 => cases h
              rename_i p q hp hq
              cases h
              simp only [Op.eqFields, ne_eq, hn, not_false_eq_true, if_true, Sem.run_bind, partV_run ha w, partV_run hc w, Result.andThen_ok, eqT_run d hp D w (by omega), Sem.run_ite, Sem.run_pure]
              cases p
              · simp
              · simpa using ih q hq
        exact go _ _ h
      · cases h
    · rename_i n e hu
      split at h
      · rename_i m xs ys hm
        obtain ⟨i, hi, him⟩ : ∃ i, P.info? e = some i ∧ i.size = m := by
          unfold tsz at hm
          rw [Option.map_eq_some_iff] at hm
          exact hm
        rw [run_equalIn_array w D xs ys hu hi, show P.cellsOf e = m by simp [Program.cellsOf, hi, him]]
        have go : ∀ (l : List Nat) (b : Bool), eqT.eqIs P (fun a b => eqT P d e a b) e m xs.toList ys.toList l = some b → (Op.eqItems D e m xs ys l).run P w = .ok b w := by
          intro l
          induction l with
          | nil => intro b h; simp only [eqT.eqIs, Option.some.injEq] at h; subst h; simp [Op.eqItems]
          | cons j r ih =>
            intro b h
            simp only [eqT.eqIs] at h
            split at h
            case h_2 => cases h
            rename_i a c ha hc
            split at h
            case h_2 => cases h
            rename_i p q hp hq
            cases h
            simp only [Op.eqItems, Sem.run_bind, partV_run ha w, partV_run hc w, Result.andThen_ok, eqT_run d hp D w (by omega), Sem.run_ite, Sem.run_pure]
            cases p
            · simp
            · simpa using ih q hq
        exact go _ _ h
      · cases h
    · cases h
end

theorem eqv_of {P : Program} {t : TypeId} {xs ys : List AV} {K : Bool → Prop} {vs us : List Value} {b : Bool} (h1 : denL xs = some vs) (h2 : denL ys = some us) (hg : P.eqGuardType P.depth t = false) (h : eqT P 10 t (.agg vs.toArray) (.agg us.toArray) = some b) (hk : K b) : EqV P t xs ys K :=
  EqV.intro vs us b h1 h2 hg (fun w => eqT_run 10 h 10000 w (by decide)) hk
end Go.Vm

set_option linter.unusedVariables false
set_option linter.unusedSimpArgs false
set_option maxRecDepth 20000
namespace Go.Proofs.YtokmdghjgegclaaGreatDoor
open Go Go.Vm

noncomputable abbrev encX (b : Bx) : AV := .agg [.v (.int .u32 b.r0.lo), .v (.int .u32 b.r0.hi), .v (.int .u32 b.r1.lo), .v (.int .u32 b.r1.hi), .v (.int .u32 b.r2.lo), .v (.int .u32 b.r2.hi), .v (.int .u32 b.r3.lo), .v (.int .u32 b.r3.hi), .v (.int .u32 b.r4.lo), .v (.int .u32 b.r4.hi)]
noncomputable abbrev encXs (l : List Bx) : AV := .lst (l.map encX)
def topI (f : Int) : Int := if f = 0 ∨ f = 1 then 4294967295 else if f = 2 then 255 else if f = 3 ∨ f = 4 then 65535 else 0
/-- nsgref3.Top -/
theorem cr3Top (f : Int) {K : AV → List Vm.Obj → Prop} (hK : K (.v (.int .u32 (topI f))) []) : ACall Tryz.prog 66 [.v (.int .i64 f)] [] K := by
  refine ofr3Top rfl rfl ?_
  (all_goals (repeat' ((conv => whnf); first | ((with_reducible refine sl_full ?_ ?_);exact gA)|((with_reducible refine Ob.intro ?_ ?_);exact gC)|(with_reducible first|refine br_lt ?_|refine br_lf ?_)|((with_reducible refine br_pos ?_ ?_);exact gB)|((with_reducible refine br_neg ?_ ?_);exact gB)|(with_reducible(refine br_t ?_ ?_;assumption))|(with_reducible(refine br_f ?_ ?_;assumption))|(with_reducible first|refine br_dec (fun h=>?_) fun h=>?_|refine br_not ?_|refine br_b (fun h=>?_) fun h=>?_)|((with_reducible first|refine wr_i64 rfl ?_ ?_ ?_|refine wr_u64 rfl ?_ ?_ ?_|refine wr_u32 rfl ?_ ?_ ?_);exact gB;exact gB)|(with_reducible first|refine And.intro ?_ ?_|refine True.intro|refine Stp.go ?_)))); (all_goals (conv => whnf))
  all_goals
    unfold topI at hK
    simp_all only [or_self, or_true, true_or, if_true, if_false, Int.reduceEq, or_false, false_or, reduceIte]
    exact hK
def fullB : Bx := ⟨mkR 0 4294967295, mkR 0 4294967295, mkR 0 255, mkR 0 65535, mkR 0 65535⟩
/-- a range of a field -/
def Rg.okF (r : Rg) (f : Nat) : Prop := r.lo ≤ r.hi ∧ r.hi ≤ topF f
def Bx.ok (b : Bx) : Prop := b.r0.okF 0 ∧ b.r1.okF 1 ∧ b.r2.okF 2 ∧ b.r3.okF 3 ∧ b.r4.okF 4
instance (b : Bx) : Decidable b.ok := by unfold Bx.ok Rg.okF; infer_instance
/-- nsgref3.Valid -/
theorem cr3Val (b : Bx) {K : AV → List Vm.Obj → Prop} (hK : K (.sb (decide b.ok)) []) : ACall Tryz.prog 71 [encX b] [] K := by
  refine ACall.bool (ofr3Val rfl rfl ?_)
  (all_goals (repeat' ((conv => whnf); first | (with_reducible refine Lp.times 6 ?_)|(refine in_c (by decide) ?_)|(with_reducible refine cr3Top _ ?_)|((with_reducible refine sl_full ?_ ?_);exact gA)|((with_reducible refine Ob.intro ?_ ?_);exact gC)|(with_reducible first|refine br_lt ?_|refine br_lf ?_)|((with_reducible refine br_pos ?_ ?_);exact gB)|((with_reducible refine br_neg ?_ ?_);exact gB)|(with_reducible(refine br_t ?_ ?_;assumption))|(with_reducible(refine br_f ?_ ?_;assumption))|(with_reducible first|refine br_dec (fun h=>?_) fun h=>?_|refine br_not ?_|refine br_b (fun h=>?_) fun h=>?_)|((with_reducible first|refine wr_i64 rfl ?_ ?_ ?_|refine wr_u64 rfl ?_ ?_ ?_|refine wr_u32 rfl ?_ ?_ ?_);exact gB;exact gB)|(with_reducible first|refine And.intro ?_ ?_|refine True.intro|refine Stp.go ?_)))); (all_goals (conv => whnf))
  all_goals
    have hb : b.ok ↔ ((b.r0.lo ≤ b.r0.hi ∧ b.r0.hi ≤ 4294967295) ∧ (b.r1.lo ≤ b.r1.hi ∧ b.r1.hi ≤ 4294967295) ∧ (b.r2.lo ≤ b.r2.hi ∧ b.r2.hi ≤ 255) ∧ (b.r3.lo ≤ b.r3.hi ∧ b.r3.hi ≤ 65535) ∧ (b.r4.lo ≤ b.r4.hi ∧ b.r4.hi ≤ 65535)) := Iff.rfl
    have t0 : topI 0 = 4294967295 := rfl
    have t1 : topI (0 + 1) = 4294967295 := rfl
    have t2 : topI (0 + 1 + 1) = 255 := rfl
    have t3 : topI (0 + 1 + 1 + 1) = 65535 := rfl
    have t4 : topI (0 + 1 + 1 + 1 + 1) = 65535 := rfl
    first
      | exact fin_f hK (decide_eq_false (by rw [hb]; omega))
      | exact fin_t hK (decide_eq_true (by rw [hb]; omega))
theorem rg_eq {r s : Rg} : r = s ↔ r.lo = s.lo ∧ r.hi = s.hi := by
  constructor
  · rintro rfl; exact ⟨rfl, rfl⟩
  · rintro ⟨h1, h2⟩
    cases r; cases s
    simp only at h1 h2
    subst h1; subst h2; rfl
theorem eqv_X {p q : Bx} {K : Bool → Prop} (hk : K (decide (p = q))) : EqV Tryz.prog 68 [.v (.int .u32 p.r0.lo), .v (.int .u32 p.r0.hi), .v (.int .u32 p.r1.lo), .v (.int .u32 p.r1.hi), .v (.int .u32 p.r2.lo), .v (.int .u32 p.r2.hi), .v (.int .u32 p.r3.lo), .v (.int .u32 p.r3.hi), .v (.int .u32 p.r4.lo), .v (.int .u32 p.r4.hi)]
    [.v (.int .u32 q.r0.lo), .v (.int .u32 q.r0.hi), .v (.int .u32 q.r1.lo), .v (.int .u32 q.r1.hi), .v (.int .u32 q.r2.lo), .v (.int .u32 q.r2.hi), .v (.int .u32 q.r3.lo), .v (.int .u32 q.r3.hi), .v (.int .u32 q.r4.lo), .v (.int .u32 q.r4.hi)] K := by
  refine eqv_of (b := ((p.r0.lo == q.r0.lo && (p.r0.hi == q.r0.hi && true)) && ((p.r1.lo == q.r1.lo && (p.r1.hi == q.r1.hi && true)) && ((p.r2.lo == q.r2.lo && (p.r2.hi == q.r2.hi && true)) && ((p.r3.lo == q.r3.lo && (p.r3.hi == q.r3.hi && true)) && ((p.r4.lo == q.r4.lo && (p.r4.hi == q.r4.hi && true)) && true)))))) rfl rfl (by kernel_rfl) (by kernel_rfl) ?_
  have e : ((p.r0.lo == q.r0.lo && (p.r0.hi == q.r0.hi && true)) && ((p.r1.lo == q.r1.lo && (p.r1.hi == q.r1.hi && true)) && ((p.r2.lo == q.r2.lo && (p.r2.hi == q.r2.hi && true)) && ((p.r3.lo == q.r3.lo && (p.r3.hi == q.r3.hi && true)) && ((p.r4.lo == q.r4.lo && (p.r4.hi == q.r4.hi && true)) && true))))) = decide (p = q) := by
    rw [Bool.eq_iff_iff]
    cases p; cases q
    simp [rg_eq]
  rw [e]
  exact hk
end Go.Proofs.YtokmdghjgegclaaGreatDoor

set_option linter.unusedVariables false
set_option linter.unusedSimpArgs false
set_option maxRecDepth 20000
namespace Go.Proofs.YtokmdghjgegclaaGreatDoor
open Go Go.Vm

theorem atF_succ {f : Nat} {v : Int} {l : List Bx} {k : Nat} {x : Bx} (h : l[k]? = some x) : atF f v (l.take (k + 1)) = atF f v (l.take k) ++ (if (x.get f).lo ≤ v ∧ v ≤ (x.get f).hi then [x] else []) := by
  rw [List.take_add_one, h, atF, List.filter_append]
  congr 1
  by_cases hc : (x.get f).lo ≤ v ∧ v ≤ (x.get f).hi
  · simp [hc]
  · have : (decide ((x.get f).lo ≤ v) && decide (v ≤ (x.get f).hi)) = false := by
      rw [Bool.eq_false_iff, ne_eq, Bool.and_eq_true, decide_eq_true_eq, decide_eq_true_eq]; exact hc
    simp [this, hc]
theorem atF_len (f : Nat) (v : Int) (l : List Bx) : (atF f v l).length ≤ l.length := List.length_filter_le ..
theorem topI_nat {f : Nat} (h : f ≤ 4) : topI (f : Int) = topF f := by
  rcases f with _ | _ | _ | _ | _ | f
  all_goals first | rfl | omega
end Go.Proofs.YtokmdghjgegclaaGreatDoor

set_option linter.unusedVariables false
set_option linter.unusedSimpArgs false
set_option maxRecDepth 20000
namespace Go.Proofs.YtokmdghjgegclaaGreatDoor
open Go Go.Vm

theorem grow_nil {gs : List (Grp (List Bx))} {s : Int × Int} : grow eqB gs s [] = gs := rfl
theorem flatG_snoc {f : Nat} {ini : List (Grp (List Bx))} {g : Grp (List Bx)} : flatG f (ini ++ [g]) = flatG f ini ++ g.val.map fun b => b.put f (mkR g.lo g.hi) := by
  rw [flatG, List.flatMap_append]
  simp [flatG]
/-- the state behind i segments -/
def gsAt (R : Int → List Bx) (top : Int) (st : List Int) (i : Nat) : List (Grp (List Bx)) := ((segs top st).take i).foldl (fun out s => grow eqB out s (R s.1)) []
/-- where a segment ends -/
def segTo (top : Int) (st : List Int) (i : Nat) : Int := match st[i + 1]? with
  | some y => y - 1
  | none => top
theorem segs_at {top : Int} {st : List Int} {i : Nat} {x : Int} (h : st[i]? = some x) : (segs top st)[i]? = some (x, segTo top st i) := segs_get top st i x h
theorem gsAt_succ {R : Int → List Bx} {top : Int} {st : List Int} {i : Nat} {x : Int} (h : st[i]? = some x) : gsAt R top st (i + 1) = grow eqB (gsAt R top st i) (x, segTo top st i) (R x) := by
  rw [gsAt, foldl_succ (segs_at h)]; rfl
theorem gsAt_all {R : Int → List Bx} {top : Int} {st : List Int} {i : Nat} (h : st.length ≤ i) : gsAt R top st i = groupsOf R top st := by
  rw [gsAt, List.take_of_length_le (by rw [segs_length]; exact h)]; rfl
theorem gsAt_ginv {R : Int → List Bx} {top : Int} {l : List Rg} {st : List Int} (hc : Cuts top l st) (hR : ∀ u v, (∀ r, r ∈ l → ((r.lo ≤ u ∧ u ≤ r.hi) ↔ (r.lo ≤ v ∧ v ≤ r.hi))) → R u = R v) : ∀ (i : Nat) (x : Int), st[i]? = some x → GInv R (gsAt R top st i) x
  | 0, x, h => by
    obtain ⟨r, hr⟩ := hc.zero
    rw [hr] at h
    simp at h
    subst h
    exact GInv.start R
  | i + 1, x, h => by
    have hi := (List.getElem?_eq_some_iff.1 h).1
    obtain ⟨y, hy⟩ : ∃ y, st[i]? = some y := ⟨_, List.getElem?_eq_getElem (by omega)⟩
    have ih := gsAt_ginv hc hR i y hy
    have hseg := List.mem_of_getElem? (segs_at (top := top) hy)
    have hto : segTo top st i = x - 1 := by rw [segTo, h]
    have hyx : y < x := by
      have := List.pairwise_iff_getElem.1 hc.sorted i (i + 1) (by omega) hi (by omega)
      rw [List.getElem?_eq_getElem (by omega)] at hy h
      have e1 := Option.some.inj hy
      have e2 := Option.some.inj h
      omega
    have hy0 := (hc.range y (List.mem_of_getElem? hy)).1
    rw [hto] at hseg
    have hst := ih.step eqB_iff (hi := x - 1) hy0 (by omega) (fun v v1 v2 => hR v y fun r hr => hc.const hseg v1 v2 hr)
    rw [show x - 1 + 1 = x by omega] at hst
    rw [gsAt_succ hy, hto]
    exact hst
theorem gsAt_size {R : Int → List Bx} {top : Int} {st : List Int} (i : Nat) : sizeG (gsAt R top st i) ≤ sizeG (groupsOf R top st) := by
  have e : groupsOf R top st = ((segs top st).drop i).foldl (fun out s => grow eqB out s (R s.1)) (gsAt R top st i) := by
    rw [groupsOf, gsAt, ← List.foldl_append, List.take_append_drop]
  rw [e]
  exact fold_size R _ _
theorem rest_size {R : Int → List Bx} {top : Int} {st : List Int} {i : Nat} {x : Int} (h : st[i]? = some x) : (R x).length ≤ sizeG (groupsOf R top st) := by
  have h1 := (grow_size (gsAt R top st i) (x, segTo top st i) (R x)).2
  rw [← gsAt_succ h] at h1
  exact Nat.le_trans h1 (gsAt_size _)
theorem segTo_range {top : Int} {l : List Rg} {st : List Int} (hc : Cuts top l st) {i : Nat} {x : Int} (hx : st[i]? = some x) : x ≤ segTo top st i ∧ segTo top st i ≤ top ∧ 0 ≤ x := by
  have hr := hc.range x (List.mem_of_getElem? hx)
  unfold segTo
  cases hy : st[i + 1]? with
  | none => simp only; omega
  | some y =>
    have hi := (List.getElem?_eq_some_iff.1 hy).1
    have := List.pairwise_iff_getElem.1 hc.sorted i (i + 1) (by omega) hi (by omega)
    have hry := hc.range y (List.mem_of_getElem? hy)
    rw [List.getElem?_eq_getElem (by omega)] at hx hy
    have e1 := Option.some.inj hx
    have e2 := Option.some.inj hy
    simp only
    omega
end Go.Proofs.YtokmdghjgegclaaGreatDoor

set_option linter.unusedVariables false
set_option linter.unusedSimpArgs false
set_option maxRecDepth 20000
set_option maxHeartbeats 2000000
namespace Go.Proofs.YtokmdghjgegclaaGreatDoor
open Go Go.Vm

theorem put0 (b : Bx) (r : Rg) : b.put 0 r = ⟨r, b.r1, b.r2, b.r3, b.r4⟩ := rfl
theorem put1 (b : Bx) (r : Rg) : b.put 1 r = ⟨b.r0, r, b.r2, b.r3, b.r4⟩ := rfl
theorem put2 (b : Bx) (r : Rg) : b.put 2 r = ⟨b.r0, b.r1, r, b.r3, b.r4⟩ := rfl
theorem put3 (b : Bx) (r : Rg) : b.put 3 r = ⟨b.r0, b.r1, b.r2, r, b.r4⟩ := rfl
theorem put4 (b : Bx) (r : Rg) : b.put 4 r = ⟨b.r0, b.r1, b.r2, b.r3, r⟩ := rfl
theorem dec_pos {α : Type} {f : α → AV} (l : List α) : decide ((0 : Int) < ((l.map f).length : Int)) = !l.isEmpty := by
  cases l with
  | nil => rfl
  | cons x l => simp

end Go.Proofs.YtokmdghjgegclaaGreatDoor

set_option linter.unusedVariables false
set_option linter.unusedSimpArgs false
set_option maxRecDepth 20000
namespace Go.Proofs.YtokmdghjgegclaaGreatDoor
open Go Go.Vm

def vldB (l : List Bx) : List Bx := l.filter fun b => decide b.ok
theorem vldB_len (l : List Bx) : (vldB l).length ≤ l.length := List.length_filter_le ..
theorem vldB_succ {l : List Bx} {k : Nat} {x : Bx} (h : l[k]? = some x) : vldB (l.take (k + 1)) = vldB (l.take k) ++ (if x.ok then [x] else []) := by
  rw [List.take_add_one, h, vldB, List.filter_append]
  congr 1
  by_cases hc : x.ok <;> simp [hc]
def limP (l : List Bx) : List Bx := if 4096 < l.length then [] else l
def limE (l : List Bx) : Int := if 4096 < l.length then 3 else 0
end Go.Proofs.YtokmdghjgegclaaGreatDoor

set_option linter.unusedVariables false
set_option linter.unusedSimpArgs false
set_option maxRecDepth 20000
set_option maxHeartbeats 2000000
namespace Go.Proofs.YtokmdghjgegclaaGreatDoor
open Go Go.Vm

theorem Parts.next {f : Nat} : ∀ {ps : List (List Bx)}, Parts f ps → ∀ {r : Nat} {p q : List Bx}, ps[r]? = some p → ps[r + 1]? = some q → rgOf f p ≠ rgOf f q
  | [], _, r, p, q, h, _ => by simp at h
  | p0 :: ps, hP, 0, p, q, h, h2 => by
    simp at h; subst h
    cases hP with
    | one => simp at h2
    | cons _ q' ps' _ _ h3 _ => simp at h2; subst h2; exact h3
  | p0 :: ps, hP, r + 1, p, q, h, h2 => Parts.next hP.tail (by simpa using h) (by simpa using h2)
def lastRun (ps : List (List Bx)) : Nat → List Bx
  | 0 => []
  | r + 1 => (ps[r]?).getD []
end Go.Proofs.YtokmdghjgegclaaGreatDoor

set_option linter.unusedVariables false
set_option linter.unusedSimpArgs false
set_option maxRecDepth 20000
set_option maxHeartbeats 2000000
namespace Go.Proofs.YtokmdghjgegclaaGreatDoor
open Go Go.Vm

/-- a packet set -/
def setB (l : List Bx) : Bool := decide (l.length ≤ 4096) && (decide ((vldB l).length = l.length) && canB 5 l)
/-- a box more, as long as there are not too many -/
def addO (s : List Bx) (b : Bx) : List Bx := cano orB 5 s [b]
def makeGo : List Bx → List Bx → List Bx × Int
  | s, [] => (s, 0)
  | s, b :: l => if b.ok then (if 4096 < (addO s b).length then ([], 3) else makeGo (addO s b) l) else makeGo s l
/-- the packet set of a list, and the error -/
def makeP (l : List Bx) : List Bx × Int := makeGo [] l
end Go.Proofs.YtokmdghjgegclaaGreatDoor

