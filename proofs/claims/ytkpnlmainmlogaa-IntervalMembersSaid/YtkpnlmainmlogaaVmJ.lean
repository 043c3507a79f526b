/- An abstract machine over the loaded code, part J: steps, regions in whatever order, code: what the evaluation says is so. -/
import Derived.Test.YtkpnlmainmlogaaVmP
set_option linter.unusedVariables false
set_option linter.unusedSimpArgs false
namespace Go.Vm

/-- The state tells the truth of the frame and the world. -/
structure Sim (N : Nat) (ι : Inj) (E : Nat → Prop) (σ : St) (a : Act) (w : World) : Prop where
  rep : Rep ι E w σ.n σ.h
  slots : ∀ t x, get σ.s t = some x → ∃ v, a.tmps[t]? = some v ∧ Rel E w ι x v
  size : a.tmps.size = N
  defers : a.defers = []

section
variable {P : Program} {E : Nat → Prop} {w : World} {ι : Inj} {N : Nat} {σ : St} {a : Act}

theorem Sim.ev (s : Sim N ι E σ a w) (x : Operand) : Rel E w ι (σ.ev x) (a.eval x) := by
  cases x with
  | tmp t =>
    simp only [St.ev, Act.eval]
    cases hg : get σ.s t with
    | none => exact .junk _
    | some y =>
      obtain ⟨v, h1, h2⟩ := s.slots t y hg
      simp only
      have : a.tmps.getD t undef = v := by simp [h1]
      rw [this]; exact h2
  | const v => exact rel_ofValue v
  | global g => exact .junk _
  | func f => exact .fn _ [] [] #[] #[] rfl rfl (fun i x y hx _ => by simp at hx) (fun i x y hx _ => by simp at hx)

theorem Sim.keep {ι' : Inj} {E' : Nat → Prop} {w' : World} {n' : Nat} {h' : Hp} (s : Sim N ι E σ a w) (r : Rep ι' E' w' n' h') (x : Ext ι σ.h E w ι' h' E' w') : Sim N ι' E' ⟨n', h', σ.s⟩ a w' :=
  ⟨r, fun t y hg => by
    obtain ⟨v, h1, h2⟩ := s.slots t y hg
    exact ⟨v, h1, x.rel s.rep h2⟩, s.size, s.defers⟩

theorem Sim.put (s : Sim N ι E σ a w) {x : AV} {v : Value} (dst : Option Tmp) (hr : Rel E w ι x v) : Sim N ι E (σ.put N dst x) (a.put dst v) w := by
  cases dst with
  | none => exact s
  | some d =>
    simp only [St.put, Act.put]
    cases hb : Nat.blt d N with
    | true =>
      have hlt' : d + 1 ≤ N := by simpa [Nat.blt] using hb
      have hlt : d < N := hlt'
      refine ⟨s.rep, fun t y hg => ?_, by simp; exact s.size, s.defers⟩
      rw [get_cons] at hg
      split at hg
      · rename_i e; subst e; cases hg
        exact ⟨v, by simp [s.size, hlt], hr⟩
      · rename_i e
        obtain ⟨u, h1, h2⟩ := s.slots t y hg
        exact ⟨u, by simp [Array.getElem?_setIfInBounds_ne e, h1], h2⟩
    | false =>
      have hge : N ≤ d := by
        rcases Nat.lt_or_ge d N with h | h
        · have h' : d + 1 ≤ N := h
          have : Nat.blt d N = true := by simpa [Nat.blt] using h'
          rw [this] at hb; cases hb
        · exact h
      have : a.tmps.setIfInBounds d v = a.tmps := by
        apply Array.ext_getElem?
        intro i
        rw [Array.getElem?_setIfInBounds]
        split
        · rename_i e; subst e
          split
          · rename_i hlt; have := s.size; omega
          · rename_i hge'; rw [Array.getElem?_eq_none (by omega)]
        · rfl
      rw [this]; exact s

theorem Sim.more (s : Sim N ι E σ a w) {t : Nat} {x : AV} (hx : ∃ v, a.tmps[t]? = some v ∧ Rel E w ι x v) : Sim N ι E ⟨σ.n, σ.h, (t, x) :: σ.s⟩ a w :=
  ⟨s.rep, fun t' y hg => by
    simp only [get_cons] at hg
    split at hg
    · rename_i e; subst e; cases hg; exact hx
    · exact s.slots t' y hg, s.size, s.defers⟩

/-- What a step leaves. -/
def Left (P : Program) (N : Nat) (ι : Inj) (E : Nat → Prop) (σ : St) (w : World) (K : St → Prop) (a' : Act) (w' : World) : Prop :=
  ∃ σ' ι' E', K σ' ∧ Sim N ι' E' σ' a' w' ∧ Ext ι σ.h E w ι' σ'.h E' w'

theorem isQuiet_qop {h : Hp} {ev : Operand → AV} {o : Op} {K : AV → Prop} (hq : isQuiet o = true) : True := trivial

/-- An operation that only reads. -/
theorem exec_quiet (s : Sim N ι E σ a w) {Γ : Ctx} (hN : Γ.N = N) {o : Oper} {K : St → Prop} (hq : isQuiet o.op = true) (h : execQ P Γ o σ K) :
    ∃ v σ', (execOp a.eval o).run P w = .ok (.value v) w ∧ K σ' ∧ Sim N ι E σ' (a.put o.dst v) w ∧ σ'.h = σ.h := by
  obtain ⟨n, hh, ss⟩ := σ
  unfold execQ at h
  simp only [hq, putQ_eq] at h
  obtain ⟨v, x, h1, h2, h3⟩ := qop_sound s.rep s.ev h
  refine ⟨v, _, h1, h3, hN ▸ s.put o.dst h2, ?_⟩
  unfold St.put
  split
  · rfl
  · split <;> rfl

/-- Any other operation. -/
theorem exec_effect (s : Sim N ι E σ a w) {Γ : Ctx} (hN : Γ.N = N) {o : Oper} {K : St → Prop} (hq : isQuiet o.op = false) (h : execQ P Γ o σ K) {next : Act → World → Prop} {Q : Exit → Act → World → Prop}
    (hn : ∀ a' w', Left P N ι E σ w K a' w' → next a' w') : o.wp P a w next Q := by
  obtain ⟨n, hh, ss⟩ := σ
  unfold execQ at h
  simp only [hq, putQ_eq] at h
  have hput : ∀ (n' : Nat) (h' : Hp) (x : AV), (St.put ⟨n', h', ss⟩ Γ.N o.dst x).h = h' := by
    intro n' h' x
    unfold St.put
    split
    · rfl
    · split <;> rfl
  have fin : EGives P E w ι n hh (execOp a.eval o) (fun x n h => K (St.put ⟨n, h, ss⟩ Γ.N o.dst x)) → o.wp P a w next Q := by
    rintro ⟨x, v, w', ι', E', n', h', hrun, hk, hr, hrep, hx⟩
    have hleft : next (a.put o.dst v) w' := hn _ _ ⟨_, ι', E', hk, hN ▸ (s.keep hrep hx).put o.dst hr, by rw [hput]; exact hx⟩
    unfold Oper.wp
    rcases hrun with hrun | ⟨hrun, rfl⟩
    · rw [hrun, Oper.upon_value]; exact hleft
    · rw [hrun, Oper.upon_skip]; exact hleft
  have finC : ∀ {c : Call} {f : Operand}, o.op = .call c → c.callee = .value f → CGives P E w ι hh (execOp a.eval o) (fun x n h => K (St.put ⟨n, h, ss⟩ Γ.N o.dst x)) → o.wp P a w next Q := by
    rintro c f _ _ ⟨fn, vals, hrun, hcall⟩
    unfold Oper.wp
    rw [hrun, Oper.upon_enter]
    refine hcall.mono ?_
    rintro e w' ⟨v, x, n', h', ι', E', rfl, hk, hr, hrep, hx⟩
    exact hn _ _ ⟨_, ι', E', hk, hN ▸ (s.keep hrep hx).put o.dst hr, by rw [hput]; exact hx⟩
  split at h
  · rename_i c hc
    split at h
    · rename_i f hcal
      exact finC hc hcal (callQ_sound s.rep s.ev hc hcal h)
    · exact fin (eop_sound s.rep s.ev (by rw [hc]; exact h))
  · exact fin (eop_sound s.rep s.ev h)

theorem yielded_of {ops : Array Oper} {j : Nat} {oj : Oper} {t : Tmp} {b : Bool} (ho : ops[j]? = some oj) (hd : oj.dst = some t) (hv : a.tmps[t]? = some (.bool b)) : yielded ops a.tmps j = some b := by
  unfold yielded
  simp only [ho, Option.bind_some, hd, hv]

/-- A step: the operation is carried out, or (its guard says no) passed by. -/
theorem step_cases (s : Sim N ι E σ a w) {Γ : Ctx} (hN : Γ.N = N) {ops : Array Oper} {o : Oper} {K : St → Prop} (h : opStep P Γ ops.toList o σ K) :
    (Region.wanted o (yielded ops a.tmps) = true ∧ ∃ σ1, Sim N ι E σ1 a w ∧ σ1.h = σ.h ∧ execQ P Γ o σ1 K) ∨
    (Region.wanted o (yielded ops a.tmps) = false ∧ ∃ σ1, K σ1 ∧ Sim N ι E σ1 (a.put o.dst undef) w ∧ σ1.h = σ.h) := by
  unfold opStep at h
  have hph : ∀ (n' : Nat) (h' : Hp) (ss : List (Nat × AV)) (x : AV), (St.put ⟨n', h', ss⟩ Γ.N o.dst x).h = h' := by
    intro n' h' ss x
    unfold St.put
    split
    · rfl
    · split <;> rfl
  cases hg : o.guard with
  | none =>
    simp only [hg] at h
    exact .inl ⟨by simp [Region.wanted, hg], σ, s, rfl, h⟩
  | some jw =>
    obtain ⟨j, want⟩ := jw
    simp only [hg] at h
    have e : ops.toList[j]? = ops[j]? := by simp
    rw [e] at h
    cases ho : ops[j]? with
    | none => simp [ho] at h
    | some oj =>
      simp only [ho] at h
      cases hd : oj.dst with
      | none => simp [hd] at h
      | some t =>
        simp only [hd] at h
        obtain ⟨n, hh, ss⟩ := σ
        simp only [putQ_eq] at h
        cases hgt : get ss t with
        | none => simp [hgt] at h
        | some x =>
          obtain ⟨v, hv1, hv2⟩ := s.slots t x hgt
          have skip : ∀ {ss'}, Sim N ι E ⟨n, hh, ss'⟩ a w → Sim N ι E (St.put ⟨n, hh, ss'⟩ Γ.N o.dst (.tup [])) (a.put o.dst undef) w := fun s' => hN ▸ s'.put o.dst (.tup [] #[] rfl (fun i x y hx _ => by simp at hx))
          have wn : ∀ {b}, v = .bool b → Region.wanted o (yielded ops a.tmps) = (b == want) := by
            intro b hb
            unfold Region.wanted
            simp only [hg, yielded_of ho hd (hb ▸ hv1)]
            cases b <;> cases want <;> rfl
          simp only [hgt] at h
          split at h
          · rename_i hx; cases hx
            have hvb := rel_v hv2
            split at h
            · exact .inl ⟨by rw [wn hvb]; rfl, _, s, rfl, h⟩
            · exact .inr ⟨by rw [wn hvb]; rfl, _, h, skip s, hph _ _ _ _⟩
          · rename_i hx; cases hx
            have hvb := rel_v hv2
            split at h
            · exact .inl ⟨by rw [wn hvb]; rfl, _, s, rfl, h⟩
            · exact .inr ⟨by rw [wn hvb]; rfl, _, h, skip s, hph _ _ _ _⟩
          · rename_i b hx; cases hx
            have hvb : v = .bool b := rel_toB hv2 rfl
            have s' : Sim N ι E ⟨n, hh, (t, .v (.bool b)) :: ss⟩ a w := s.more ⟨v, hv1, hvb ▸ .v _⟩
            split at h
            · obtain ⟨h1, h2⟩ := h.elim
              cases b with
              | true => exact .inl ⟨by rw [wn hvb]; rfl, _, s', rfl, h1 rfl⟩
              | false => exact .inr ⟨by rw [wn hvb]; rfl, _, h2 rfl, skip s', hph _ _ _ _⟩
            · obtain ⟨h1, h2⟩ := h.elim
              cases b with
              | true => exact .inr ⟨by rw [wn hvb]; rfl, _, h1 rfl, skip s', hph _ _ _ _⟩
              | false => exact .inl ⟨by rw [wn hvb]; rfl, _, s', rfl, h2 rfl⟩
          · rename_i hx; cases hx
            have hvu : v = .tuple #[] := by
              cases hv2 with
              | tup _ c hs _ =>
                have : c = #[] := Array.eq_empty_of_size_eq_zero (by simpa using hs.symm)
                rw [this]
            have hy : yielded ops a.tmps j = none := by
              unfold yielded
              simp only [ho, Option.bind_some, hd, hv1, hvu]
            exact .inr ⟨by unfold Region.wanted; simp only [hg, hy]; rfl, _, h, skip s, hph _ _ _ _⟩
          · exact h.elim

/-- In the text's order. -/
theorem opsQ_sound {Γ : Ctx} (hN : Γ.N = N) {ops : Array Oper} {K : St → Prop} {Q : Exit → Act → World → Prop} : ∀ (l : List Nat) (rest : List Oper) {σ : St} {a : Act} {w : World} {ι : Inj} {E : Nat → Prop}, Sim N ι E σ a w →
    (∀ (q : Nat), (l.map fun i => ops[i]?)[q]? = (rest.map some)[q]?) → opsQ P Γ ops.toList rest σ K → (∀ a' w', Left P N ι E σ w K a' w' → Q .normal a' w') → wpOps P ops Q l a w
  | [], rest, σ, a, w, ι, E, s, hm, h, hQ => by
    have : rest = [] := by
      cases rest with
      | nil => rfl
      | cons o r => have := hm 0; simp at this
    subst this
    exact hQ a w ⟨σ, ι, E, h, s, Ext.refl⟩
  | i :: l, [], σ, a, w, ι, E, s, hm, h, hQ => by have := hm 0; simp at this
  | i :: l, o :: rest, σ, a, w, ι, E, s, hm, h, hQ => by
    have ho : ops[i]? = some o := by have := hm 0; simpa using this
    have hm' : ∀ (q : Nat), (l.map fun i => ops[i]?)[q]? = (rest.map some)[q]? := fun q => by have := hm (q + 1); simpa using this
    simp only [wpOps, ho]
    simp only [opsQ] at h
    rcases step_cases s hN h with ⟨hw, σ1, s1, e1, h1⟩ | ⟨hw, σ1, h1, s1, e1⟩
    · rw [if_pos hw]
      cases hq : isQuiet o.op with
      | true =>
        obtain ⟨v, σ', g1, g2, g3, g4⟩ := exec_quiet s1 hN hq h1
        refine .inl ?_
        unfold Oper.wp
        rw [g1, Oper.upon_value]
        exact opsQ_sound hN l rest g3 hm' g2 (fun a' w' ⟨σ2, ι2, E2, k, s2, x2⟩ => hQ a' w' ⟨σ2, ι2, E2, k, s2, by rw [g4, e1] at x2; exact x2⟩)
      | false =>
        refine .inl (exec_effect s1 hN hq h1 ?_)
        rintro a' w' ⟨σ', ι', E', k, s', x'⟩
        exact opsQ_sound hN l rest s' hm' k (fun a2 w2 ⟨σ2, ι2, E2, k2, s2, x2⟩ => hQ a2 w2 ⟨σ2, ι2, E2, k2, s2, by rw [e1] at x'; exact x'.trans x2⟩)
    · rw [if_neg (by rw [hw]; simp)]
      exact opsQ_sound hN l rest s1 hm' h1 (fun a' w' ⟨σ2, ι2, E2, k, s2, x2⟩ => hQ a' w' ⟨σ2, ι2, E2, k, s2, by rw [e1] at x2; exact x2⟩)

/-! ### Whatever order is picked -/
/-- the operation's value, now -/
def YN (P : Program) (ops : Array Oper) (o : Oper) (v : Value) (a : Act) (w : World) : Prop :=
  (Region.wanted o (yielded ops a.tmps) = true ∧ (execOp a.eval o).run P w = .ok (.value v) w) ∨ (Region.wanted o (yielded ops a.tmps) = false ∧ v = undef)

def wpAnyM (P : Program) (ops : Array Oper) (Q : Exit → Act → World → Prop) : Nat → Array Bool → Act → World → Prop
  | 0, L, a, w => Region.ready .any ops L = [] ∧ Q .normal a w
  | f + 1, L, a, w => (Region.ready .any ops L = [] → Q .normal a w) ∧ ∀ i ∈ Region.ready .any ops L, ∀ o, ops[i]? = some o →
    (isQuiet o.op = true → ∃ v, YN P ops o v a w ∧ wpAnyM P ops Q f (L.setIfInBounds i true) (a.put o.dst v) w) ∧
    (isQuiet o.op = false → wpOp P ops Q i (fun a' w' => wpAnyM P ops Q f (L.setIfInBounds i true) a' w') a w)

theorem wpAny_of_M {ops : Array Oper} {Q : Exit → Act → World → Prop} : ∀ (f : Nat) (L : Array Bool) (a : Act) (w : World), wpAnyM P ops Q f L a w → wpAny P .any ops Q f L a w
  | 0, _, _, _, h => h
  | f + 1, L, a, w, h => ⟨h.1, fun i hi => by
    obtain ⟨_, o, ho, _⟩ := mem_ready.1 hi
    obtain ⟨h1, h2⟩ := h.2 i hi o ho
    cases hq : isQuiet o.op with
    | true =>
      obtain ⟨v, hy, hm⟩ := h1 hq
      unfold wpOp
      simp only [ho]
      rcases hy with ⟨hw, hr⟩ | ⟨hw, rfl⟩
      · simp only [hw, if_true, Oper.wp, hr, Oper.upon]; exact .inl (wpAny_of_M f _ _ _ hm)
      · simp only [hw, Bool.false_eq_true, if_false]; exact wpAny_of_M f _ _ _ hm
    | false => exact wpOp_mono (fun a' w' h' => wpAny_of_M f _ a' w' h') (h2 hq)⟩

def Closed (ops : Array Oper) (L : Array Bool) : Prop := ∀ (j : Nat) oj, ops[j]? = some oj → L.getD j false = true → ∀ e ∈ oj.after, Region.binds .any e = true → L.getD e.on false = true

theorem waits_spec {ops : Array Oper} {L : Array Bool} (hc : Closed ops L) : ∀ (f : Nat) (j i : Nat) (oj : Oper), ops[j]? = some oj → (∀ e ∈ oj.after, Region.binds .any e = true → L.getD e.on false = true) → waitsF ops f j i = true → L.getD i false = true
  | 0, _, _, _, _, _, h => by simp [waitsF] at h
  | f + 1, j, i, oj, hj, hall, h => by
    simp only [waitsF, hj] at h
    obtain ⟨e, he, hb⟩ := Array.any_eq_true'.1 h
    simp only [Bool.and_eq_true, Bool.or_eq_true, beq_iff_eq] at hb
    obtain ⟨hb1, hb2⟩ := hb
    have hl := hall e he hb1
    rcases hb2 with rfl | hb2
    · exact hl
    · cases ho : ops[e.on]? with
      | none =>
        cases f with
        | zero => simp [waitsF] at hb2
        | succ f => simp [waitsF, ho] at hb2
      | some o' => exact waits_spec hc f e.on i o' ho (fun e' he' hb' => hc _ _ ho hl e' he' hb') hb2

theorem Closed.set {ops : Array Oper} {L : Array Bool} {i : Nat} (hc : Closed ops L) (hi : i ∈ Region.ready .any ops L) : Closed ops (L.setIfInBounds i true) := by
  obtain ⟨_, oi, hoi, hall⟩ := mem_ready.1 hi
  intro j oj hj hl e he hb
  by_cases hij : i = j
  · subst hij
    rw [hoi] at hj; cases hj
    exact getD_set_true (hall e he hb)
  · rw [getD_set_ne false hij] at hl
    exact getD_set_true (hc j oj hj hl e he hb)

theorem getD_true_of_false {L : Array Bool} {i : Nat} (h : L.getD i false = true) : L.getD i true = true := by
  rcases Nat.lt_or_ge i L.size with h' | h'
  · simp [h'] at h ⊢; exact h
  · simp [Array.getElem?_eq_none h'] at h

theorem yields_still {ops : Array Oper} {o : Oper} {v : Value} (hs : isStill o.op = true) (hy : YN P ops o v a w) : Yields P ops o v a := by
  refine hy.imp (fun ⟨hw, hv⟩ => ⟨hw, fun w' => ?_⟩) id
  unfold isStill at hs
  split at hs
  · rename_i x hx
    simp only [execOp, hx] at hv ⊢
    simpa using hv
  · rename_i x hx
    simp only [execOp, hx] at hv ⊢
    simpa using hv
  · rename_i hx
    simp only [execOp, hx] at hv ⊢
    exact (Pur.bind (sliceAt_pur _ _ _ _ _) (fun v => Pur.pure _) w _ _ hv).2 w'
  · cases hs

theorem wpAnyM_first {ops : Array Oper} {Q : Exit → Act → World → Prop} {F i : Nat} {oi : Oper} {v : Value} (hi : ops[i]? = some oi) (hqi : isQuiet oi.op = true) (hsel : ∀ (j : Nat) (o : Oper) cs b, ops[j]? = some o → o.op ≠ .select cs b)
    (hQ : ∀ c a w, ¬ Q (.panic c) a w) :
    ∀ (f : Nat) (L : Array Bool) (a : Act) (w : World), Closed ops L →
      (∀ j oj, ops[j]? = some oj → j ≠ i → L.getD j true = false → (∀ e ∈ oj.after, Region.binds .any e = true → e.on ≠ i) → oi.apart ops oj = true) →
      (∀ j oj, ops[j]? = some oj → L.getD j true = false → isQuiet oj.op = false → isStill oi.op = true ∨ waitsF ops F j i = true) →
      i ∈ Region.ready .any ops L → YN P ops oi v a w → wpAnyM P ops Q f (L.setIfInBounds i true) (a.put oi.dst v) w → wpAnyM P ops Q (f + 1) L a w := by
  intro f
  induction f with
  | zero =>
    intro L a w hc _ _ hr hy H
    refine ⟨fun h => (by rw [h] at hr; cases hr), fun j hj oj hoj => ?_⟩
    by_cases hji : j = i
    · subst hji
      rw [hi] at hoj; cases hoj
      exact ⟨fun _ => ⟨v, hy, H⟩, fun h => by rw [hqi] at h; cases h⟩
    · have := ready_mono hj hji
      rw [H.1] at this
      cases this
  | succ f ih =>
    intro L a w hc hfree heff hr hy H
    refine ⟨fun h => (by rw [h] at hr; cases hr), fun j hj oj hoj => ?_⟩
    by_cases hji : j = i
    · subst hji
      rw [hi] at hoj; cases hoj
      exact ⟨fun _ => ⟨v, hy, H⟩, fun h => by rw [hqi] at h; cases h⟩
    · obtain ⟨hjun, oj', hoj', hall⟩ := mem_ready.1 hj
      rw [hoj] at hoj'; cases hoj'
      have hiun := (mem_ready.1 hr).1
      refine ⟨fun hqj => ?_, fun hqj => ?_⟩
      · have hnot : ∀ e ∈ oj.after, Region.binds .any e = true → e.on ≠ i := fun e he hb heq => by
          have h1 := hall e he hb
          rw [heq] at h1
          rw [getD_true_of_false h1] at hiun; cases hiun
        obtain ⟨h1, h2, h3⟩ := Oper.apart_spec (hfree j oj hoj hji hjun hnot)
        obtain ⟨u, hyu, hm⟩ := (H.2 j (ready_mono hj hji) oj hoj).1 hqj
        have hyj : YN P ops oj u a w := by
          unfold YN at hyu ⊢
          rw [wanted_put oj a oi.dst v h1, execOp_put oj (fun cs b => hsel j oj cs b hoj) a oi.dst v h1] at hyu
          exact hyu
        have hyi : YN P ops oi v (a.put oj.dst u) w := by
          unfold YN at hy ⊢
          rw [wanted_put oi a oj.dst u h3, execOp_put oi (fun cs b => hsel i oi cs b hi) a oj.dst u h3]
          exact hy
        refine ⟨u, hyj, ih _ _ _ (hc.set hj) (fun k ok hk hki hun hno => ?_) (fun k ok hk hun hqk => ?_) (ready_mono hr (Ne.symm hji)) hyi ?_⟩
        · refine hfree k ok hk hki ?_ hno
          by_cases hjk : j = k
          · subst hjk; exact hjun
          · rw [getD_set_ne true hjk] at hun; exact hun
        · refine heff k ok hk ?_ hqk
          by_cases hjk : j = k
          · subst hjk; exact hjun
          · rw [getD_set_ne true hjk] at hun; exact hun
        · rw [Array.setIfInBounds_comm _ _ hji, ← Act.put_comm a v u h2]
          exact hm
      · rcases heff j oj hoj hjun hqj with hst | hwt
        · have hnot : ∀ e ∈ oj.after, Region.binds .any e = true → e.on ≠ i := fun e he hb heq => by
            have h1 := hall e he hb
            rw [heq] at h1
            rw [getD_true_of_false h1] at hiun; cases hiun
          have h1 := (H.2 j (ready_mono hj hji) oj hoj).2 hqj
          have h2 := wpOp_put hoj (hfree j oj hoj hji hjun hnot) (fun cs b => hsel i oi cs b hi) (fun cs b => hsel j oj cs b hoj) (fun c a w h => absurd h (hQ c _ w)) (yields_still hst hy) h1
          refine wpOp_mono (fun a' w' h3 => ih _ a' w' (hc.set hj) (fun k ok hk hki hun hno => ?_) (fun k ok hk hun hqk => .inl hst) (ready_mono hr (Ne.symm hji)) (h3.1.imp (fun ⟨q1, q2⟩ => ⟨q1, q2 w'⟩) id) ?_) h2
          · refine hfree k ok hk hki ?_ hno
            by_cases hjk : j = k
            · subst hjk; exact hjun
            · rw [getD_set_ne true hjk] at hun; exact hun
          · rw [Array.setIfInBounds_comm _ _ hji]
            exact h3.2
        · have := waits_spec hc F j i oj hoj hall hwt
          rw [getD_true_of_false this] at hiun; cases hiun

theorem planQ_sound {Γ : Ctx} (hN : Γ.N = N) {ops : Array Oper} (hsel : Region.noSelect ops = true) {K : St → Prop} {Q : Exit → Act → World → Prop} (hQp : ∀ c a w, ¬ Q (.panic c) a w) : ∀ (s : Sched) {L : Array Bool} {σ : St} {a : Act} {w : World} {ι : Inj} {E : Nat → Prop}, Sim N ι E σ a w → Closed ops L → okPlan ops s L = true →
    planQ P Γ ops.toList s σ K → (∀ a' w', Left P N ι E σ w K a' w' → Q .normal a' w') → wpAnyM P ops Q s.depth L a w := by
  -- one operation of the ready ones, in whatever manner
  have step : ∀ {i : Nat} {o : Oper} {σ : St} {a : Act} {w : World} {ι : Inj} {E : Nat → Prop} {f : Nat} {L' : Array Bool} {K' : St → Prop}, ops[i]? = some o → Sim N ι E σ a w → opStep P Γ ops.toList o σ K' →
      (∀ a' w', Left P N ι E σ w K' a' w' → wpAnyM P ops Q f L' a' w') →
      (isQuiet o.op = true → ∃ v, YN P ops o v a w ∧ wpAnyM P ops Q f L' (a.put o.dst v) w) ∧ (isQuiet o.op = false → wpOp P ops Q i (fun a' w' => wpAnyM P ops Q f L' a' w') a w) := by
    intro i o σ a w ι E f L' K' ho s h hnext
    rcases step_cases s hN h with ⟨hw, σ1, s1, e1, h1⟩ | ⟨hw, σ1, h1, s1, e1⟩
    · refine ⟨fun hq => ?_, fun hq => ?_⟩
      · obtain ⟨v, σ', g1, g2, g3, g4⟩ := exec_quiet s1 hN hq h1
        exact ⟨v, .inl ⟨hw, g1⟩, hnext _ _ ⟨σ', ι, E, g2, g3, by rw [g4, e1]; exact Ext.refl⟩⟩
      · unfold wpOp
        simp only [ho, hw, if_true]
        refine .inl (exec_effect s1 hN hq h1 ?_)
        rintro a' w' ⟨σ', ι', E', k, s', x'⟩
        exact hnext _ _ ⟨σ', ι', E', k, s', by rw [e1] at x'; exact x'⟩
    · refine ⟨fun hq => ⟨undef, .inr ⟨hw, rfl⟩, hnext _ _ ⟨σ1, ι, E, h1, s1, by rw [e1]; exact Ext.refl⟩⟩, fun hq => ?_⟩
      unfold wpOp
      simp only [ho, hw, Bool.false_eq_true, if_false]
      exact hnext _ _ ⟨σ1, ι, E, h1, s1, by rw [e1]; exact Ext.refl⟩
  intro s
  induction s with
  | done =>
    intro L σ a w ι E s hc hok h hQ
    simp only [okPlan, List.isEmpty_iff] at hok
    exact ⟨hok, hQ a w ⟨σ, ι, E, h, s, Ext.refl⟩⟩
  | one i first rest ih =>
    intro L σ a w ι E s hc hok h hQ
    have e : ops.toList[i]? = ops[i]? := by simp
    simp only [planQ, e] at h
    cases ho : ops[i]? with
    | none => simp [ho] at h
    | some o =>
      simp only [ho] at h
      cases first with
      | true =>
        simp only [okPlan, Bool.and_eq_true] at hok
        obtain ⟨h1, h2, h3, h4, h5⟩ := hok
        have hir : i ∈ Region.ready .any ops L := by simpa using h1
        have hq : isQuiet o.op = true := by simpa [ho] using h3
        obtain ⟨v, hy, hm⟩ := (step (f := rest.depth) (L' := L.setIfInBounds i true) ho s h (fun a' w' ⟨σ', ι', E', k, s', x'⟩ => ih s' (hc.set hir) h5 k (fun a2 w2 ⟨σ2, ι2, E2, k2, s2, x2⟩ => hQ a2 w2 ⟨σ2, ι2, E2, k2, s2, x'.trans x2⟩))).1 hq
        refine wpAnyM_first ho hq (Region.noSelect_spec hsel) hQp (F := ops.size) rest.depth L a w hc (Region.free_spec ho h2) (fun j oj hoj hun hqj => ?_) hir hy hm
        rcases Bool.or_eq_true_iff.1 h4 with h4 | h4
        · exact .inl (by simpa [ho] using h4)
        refine .inr ?_
        rw [List.all_eq_true] at h4
        have := h4 j (List.mem_range.2 (Array.getElem?_eq_some_iff.1 hoj).1)
        simp only [hun, hoj, Option.map_some, Option.getD_some, hqj, Bool.false_or] at this
        exact this
      | false =>
        simp only [okPlan, Bool.and_eq_true, decide_eq_true_eq] at hok
        obtain ⟨h1, h2⟩ := hok
        have hir : i ∈ Region.ready .any ops L := by rw [h1]; simp
        refine ⟨fun h0 => (by rw [h0] at h1; cases h1), fun j hj oj hoj => ?_⟩
        rw [h1] at hj
        have hji : j = i := by simpa using hj
        subst hji
        rw [ho] at hoj; cases hoj
        exact step ho s h (fun a' w' ⟨σ', ι', E', k, s', x'⟩ => ih s' (hc.set hir) h2 k (fun a2 w2 ⟨σ2, ι2, E2, k2, s2, x2⟩ => hQ a2 w2 ⟨σ2, ι2, E2, k2, s2, x'.trans x2⟩))
  | two i sa j sb iha ihb =>
    intro L σ a w ι E s hc hok h hQ
    have e : ops.toList[i]? = ops[i]? := by simp
    have e' : ops.toList[j]? = ops[j]? := by simp
    simp only [planQ, e, e'] at h
    simp only [okPlan, Bool.and_eq_true, decide_eq_true_eq, beq_iff_eq] at hok
    obtain ⟨h1, h2, h3, h4⟩ := hok
    cases ho : ops[i]? with
    | none => simp [ho] at h
    | some o =>
      cases ho' : ops[j]? with
      | none => simp [ho, ho'] at h
      | some o' =>
        simp only [ho, ho'] at h
        refine ⟨fun h0 => (by rw [h0] at h1; cases h1), fun q hq oq hoq => ?_⟩
        have hir : i ∈ Region.ready .any ops L := by rw [h1]; simp
        have hjr : j ∈ Region.ready .any ops L := by rw [h1]; simp
        rw [h1] at hq
        simp only [List.mem_cons, List.not_mem_nil, or_false] at hq
        rcases hq with rfl | rfl
        · rw [ho] at hoq; cases hoq
          exact step ho s h.1 (fun a' w' ⟨σ', ι', E', k, s', x'⟩ => iha s' (hc.set hir) h3 k (fun a2 w2 ⟨σ2, ι2, E2, k2, s2, x2⟩ => hQ a2 w2 ⟨σ2, ι2, E2, k2, s2, x'.trans x2⟩))
        · rw [ho'] at hoq; cases hoq
          simp only [Sched.depth, h2]
          exact step ho' s h.2 (fun a' w' ⟨σ', ι', E', k, s', x'⟩ => ihb s' (hc.set hjr) h4 k (fun a2 w2 ⟨σ2, ι2, E2, k2, s2, x2⟩ => hQ a2 w2 ⟨σ2, ι2, E2, k2, s2, x'.trans x2⟩))

end
end Go.Vm
