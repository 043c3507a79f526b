/- An abstract machine over the loaded code, part L: hints, regions, loops, functions: what the evaluation says is so. -/
import Derived.Test.YtkpnlmainmlogaaVmJ
set_option linter.unusedVariables false
set_option linter.unusedSimpArgs false
namespace Go.Vm

/-- From one state of a function to a later one: names from p on may have changed. -/
structure Ex (p : Nat) (ι : Inj) (h : Hp) (E : Nat → Prop) (w : World) (ι' : Inj) (h' : Hp) (E' : Nat → Prop) (w' : World) : Prop where
  os : w'.os = w.os
  tape : w'.tape = w.tape
  output : w'.output = w.output
  size : w.heap.size ≤ w'.heap.size
  inj : ∀ id q, id < p → ι id = some q → ι' id = some q
  old : ∀ b, b < w.heap.size → ¬ Own ι h b → w'.heap[b]? = w.heap[b]? ∧ (E' b ↔ E b)
  own : ∀ b, b < w.heap.size → Own ι' h' b → Own ι h b
  some : ∀ a, (w.cell? a).isSome = true → (w'.cell? a).isSome = true
  mark : ∀ a, a.block < w.heap.size → w'.frozen? a = w.frozen? a
  drawn : w.drawn ≤ w'.drawn

theorem Ext.ex {p : Nat} {ι ι' : Inj} {h h' : Hp} {E E' : Nat → Prop} {w w' : World} (x : Ext ι h E w ι' h' E' w') : Ex p ι h E w ι' h' E' w' :=
  ⟨x.os, x.tape, x.output, x.size, fun id q _ hq => x.inj id q hq, x.old, x.own, x.some, x.mark, x.drawn⟩
theorem Ex.trans {p : Nat} {ι ι' ι'' : Inj} {h h' h'' : Hp} {E E' E'' : Nat → Prop} {w w' w'' : World} (x : Ex p ι h E w ι' h' E' w') (y : Ex p ι' h' E' w' ι'' h'' E'' w'') : Ex p ι h E w ι'' h'' E'' w'' where
  os := y.os.trans x.os
  tape := y.tape.trans x.tape
  output := y.output.trans x.output
  size := Nat.le_trans x.size y.size
  inj := fun id q hi hq => y.inj _ _ hi (x.inj _ _ hi hq)
  old := fun b hb hn => by
    obtain ⟨h1, h2⟩ := x.old b hb hn
    obtain ⟨h3, h4⟩ := y.old b (Nat.lt_of_lt_of_le hb x.size) (fun ho => hn (x.own b hb ho))
    exact ⟨h3.trans h1, h4.trans h2⟩
  own := fun b hb ho => x.own b hb (y.own b (Nat.lt_of_lt_of_le hb x.size) ho)
  some := fun a ha => y.some a (x.some a ha)
  mark := fun a ha => (y.mark a (Nat.lt_of_lt_of_le ha x.size)).trans (x.mark a ha)
  drawn := Nat.le_trans x.drawn y.drawn

section
variable {P : Program} {E : Nat → Prop} {w : World} {ι : Inj} {N : Nat} {σ : St} {a : Act}

/-- What a piece of code leaves. -/
def LeftC (P : Program) (N p : Nat) (ι : Inj) (E : Nat → Prop) (σ : St) (w : World) (Q : Exit → St → Prop) (e : Exit) (a' : Act) (w' : World) : Prop :=
  ∃ σ' ι' E', Q e σ' ∧ Sim N ι' E' σ' a' w' ∧ Ex p ι σ.h E w ι' σ'.h E' w'

theorem keepQ_sound {s : List (Nat × AV)} : ∀ {ts : List Nat} {K : List (Nat × AV) → Prop}, keepQ s ts K → ∃ r, K r ∧ ∀ t x, get r t = some x → get s t = some x
  | [], K, h => ⟨[], h, fun t x hg => by simp [get] at hg⟩
  | t :: ts, K, h => by
    simp only [keepQ, frc_eq] at h
    split at h
    · rename_i x hx
      obtain ⟨r, h1, h2⟩ := keepQ_sound h
      refine ⟨_, h1, fun t' x' hg => ?_⟩
      rw [get_cons] at hg
      split at hg
      · rename_i e; subst e; cases hg; exact hx
      · exact h2 t' x' hg
    · exact keepQ_sound h

theorem hintQ_sound : ∀ (l : List Hint) {σ : St} {ι : Inj} {E : Nat → Prop} {K : St → Prop}, Sim N ι E σ a w → hintQ σ l K → ∃ σ' ι' E', K σ' ∧ Sim N ι' E' σ' a w ∧ Ext ι σ.h E w ι' σ'.h E' w
  | [], σ, ι, E, K, s, h => ⟨σ, ι, E, h, s, Ext.refl⟩
  | .freeze t :: r, ⟨n, hh, ss⟩, ι, E, K, s, h => by
    simp only [hintQ, frc_eq, frcH_eq] at h
    split at h
    case h_2 => exact h.elim
    rename_i x hx
    obtain ⟨v, hv1, hv2⟩ := s.slots t x hx
    obtain ⟨y, h1, h2, _⟩ := frzA_sound s.rep (S := fun id => id ∈ refsA x) hv2 (fun _ h => h) h
    obtain ⟨rr, xx⟩ := release s.rep (fun id => id ∈ refsA x) (Sub.dels (refsA x)) (fun id o hg hm => by rw [get_dels, if_pos hm] at hg; cases hg)
    have s' := (s.keep rr xx).more (t := t) (x := y) ⟨v, hv1, h1⟩
    obtain ⟨σ', ι', E', k, s2, x2⟩ := hintQ_sound r s' h2
    exact ⟨σ', ι', E', k, s2, xx.trans x2⟩
  | .virt t sz :: r, ⟨n, hh, ss⟩, ι, E, K, s, h => by
    simp only [hintQ] at h
    split at h
    case h_3 => exact h.elim
    case h_2 => exact hintQ_sound r s h
    rename_i hx
    obtain ⟨v, hv1, hv2⟩ := s.slots t _ hx
    cases hv2
    obtain ⟨ι', g1, g2, g3⟩ := new_virtual s.rep Sub.refl sz none
    have s' := (s.keep g2 g3).more (t := t) ⟨_, hv1, g1⟩
    obtain ⟨σ', ι2, E', k, s2, x2⟩ := hintQ_sound r s' h
    exact ⟨σ', ι2, E', k, s2, g3.trans x2⟩
  | .keep ts :: r, ⟨n, hh, ss⟩, ι, E, K, s, h => by
    simp only [hintQ] at h
    obtain ⟨s', h1, h2⟩ := keepQ_sound h
    have s2 : Sim N ι E ⟨n, hh, s'⟩ a w := ⟨s.rep, fun t x hg => s.slots t x (h2 t x hg), s.size, s.defers⟩
    obtain ⟨σ', ι', E', k, s3, x3⟩ := hintQ_sound (σ := ⟨n, hh, s'⟩) r s2 h1
    exact ⟨σ', ι', E', k, s3, x3⟩

theorem closed_start (ops : Array Oper) : Closed ops (Array.replicate ops.size false) := by
  intro j oj hj hl
  rcases Nat.lt_or_ge j ops.size with h | h
  · simp [h] at hl
  · simp [h] at hl

theorem regionQ_sound {Γ : Ctx} (hN : Γ.N = N) (hm : P.follows .mixedOrders = true) {id : Nat} {ops : Array Oper} {draw : Bool} {K : St → Prop} (s : Sim N ι E σ a w) (h : regionQ P Γ id ops.toList draw σ K) {Q : Exit → Act → World → Prop} (hQ : ∀ a' w', Left P N ι E σ w K a' w' → Q .normal a' w') :
    (Code.region id ops draw).wp P Q a w := by
  unfold regionQ at h
  obtain ⟨σ1, ι1, E1, h1, s1, x1⟩ := hintQ_sound _ s h
  cases draw with
  | false =>
    refine wp_region (opsQ_sound hN (List.range ops.size) ops.toList s1 (fun q => ?_) h1 (fun a' w' ⟨σ2, ι2, E2, k, s2, x2⟩ => hQ a' w' ⟨σ2, ι2, E2, k, s2, x1.trans x2⟩))
    simp only [List.getElem?_map]
    rcases Nat.lt_or_ge q ops.size with hq | hq
    · simp [List.getElem?_range hq, hq]
    · simp [hq]
  | true =>
    simp only at h1
    split at h1
    case h_2 => exact h1.elim
    rename_i pl hpl
    obtain ⟨hok, h2⟩ := h1.elim
    have hok' : planOk ops pl = true := by simpa using hok
    simp only [planOk, Bool.and_eq_true, beq_iff_eq] at hok'
    obtain ⟨hsel, hd, hp⟩ := hok'
    obtain ⟨rd, xd⟩ := rep_drew s1.rep
    have sd : Sim N ι1 E1 σ1 a { w with drawn := w.drawn + 1 } := s1.keep rd xd
    refine wp_mono (Q := fun e a' w' => e = .normal ∧ Left P N ι E σ w K a' w') ?_ (fun e a' w' ⟨he, hl⟩ => he ▸ hQ a' w' hl)
    refine wp_region_any hm (wpAny_of_M _ _ _ _ ?_)
    have goal := planQ_sound hN hsel (Q := fun e a' w' => e = .normal ∧ Left P N ι E σ w K a' w') (fun c a w h => by cases h.1) pl sd (closed_start ops) hp h2 (fun a' w' ⟨σ2, ι2, E2, k, s2, x2⟩ => ⟨rfl, σ2, ι2, E2, k, s2, (x1.trans xd).trans x2⟩)
    rw [hd] at goal
    exact goal

/-! ### names changed -/
theorem sren1_rel {ρ : Nat → Option Nat} {ι' : Inj} (hρ : ∀ id j, ρ id = some j → ι' id = ι j) {x y : AV} {v : Value} (hx : sren1 ρ x = some y) (hy : Rel E w ι y v) : Rel E w ι' x v := by
  have same : sren1 ρ x = some x → x.noref1 = true → Rel E w ι' x v := fun h1 h2 => by
    rw [h1] at hx; cases hx; exact hy.noref1 h2
  cases x with
  | op id off =>
    simp only [sren1] at hx
    cases hj : ρ id with
    | none => simp [hj] at hx
    | some j =>
      simp only [hj, Option.some.injEq] at hx; subst hx
      cases hy with
      | op _ _ b base hι => exact .op id off b base (by rw [hρ _ _ hj]; exact hι)
  | ep id sz i off =>
    simp only [sren1] at hx
    cases hj : ρ id with
    | none => simp [hj] at hx
    | some j =>
      simp only [hj, Option.some.injEq] at hx; subst hx
      cases hy with
      | ep _ _ _ _ b base hι => exact .ep id sz i off b base (by rw [hρ _ _ hj]; exact hι)
  | os id sz off len =>
    simp only [sren1] at hx
    cases hj : ρ id with
    | none => simp [hj] at hx
    | some j =>
      simp only [hj, Option.some.injEq] at hx; subst hx
      cases hy with
      | osz _ _ _ a => exact .osz id sz off a
      | os _ _ _ _ b base cap hι hc hcell => exact .os id sz off len b base cap (by rw [hρ _ _ hj]; exact hι) hc hcell
  | agg => simp [sren1] at hx
  | tup => simp [sren1] at hx
  | fn f fs cs =>
    cases fs with
    | nil => cases cs with
      | nil => exact same rfl rfl
      | cons _ _ => simp [sren1] at hx
    | cons _ _ => simp [sren1] at hx
  | _ => exact same rfl rfl

theorem srenL_rel {ρ : Nat → Option Nat} {ι' : Inj} (hρ : ∀ id j, ρ id = some j → ι' id = ι j) : ∀ {xs ys : List AV} {c : Array Value}, srenL ρ xs = some ys → RL E w ι ys c → RL E w ι' xs c
  | [], ys, c, hx, hy => by
    simp only [srenL, Option.some.injEq] at hx; subst hx
    cases hy.nil; exact rl_nil
  | x :: xs, ys, c, hx, hy => by
    simp only [srenL] at hx
    split at hx
    · rename_i y ys' h1 h2
      cases hx
      obtain ⟨v, vs, rfl, g1, g2⟩ := hy.head
      exact RL.cons (sren1_rel hρ h1 g1) (srenL_rel hρ h2 g2)
    · cases hx

theorem srenL_nth {ρ : Nat → Option Nat} : ∀ {xs ys : List AV} {i : Nat} {x : AV}, srenL ρ xs = some ys → xs[i]? = some x → ∃ y, ys[i]? = some y ∧ sren1 ρ x = some y
  | [], ys, i, x, _, hx => by simp at hx
  | z :: zs, ys, i, x, hs, hx => by
    simp only [srenL] at hs
    split at hs
    · rename_i y ys' e1 e2
      cases hs
      cases i with
      | zero => simp at hx; subst hx; exact ⟨y, rfl, e1⟩
      | succ i =>
        obtain ⟨y2, g1, g2⟩ := srenL_nth (i := i) (x := x) e2 (by simpa using hx)
        exact ⟨y2, by simpa using g1, g2⟩
    · cases hs

theorem srenA_rel {ρ : Nat → Option Nat} {ι' : Inj} (hρ : ∀ id j, ρ id = some j → ι' id = ι j) {x y : AV} {v : Value} (hx : srenA ρ x = some y) (hy : Rel E w ι y v) : Rel E w ι' x v := by
  cases x with
  | agg cs =>
    simp only [srenA] at hx
    split at hx
    · rename_i ds hd
      cases hx
      cases hy with
      | agg _ c hs h =>
        have := srenL_rel hρ hd ⟨hs, h⟩
        exact .agg _ _ this.1 this.2
    · cases hx
  | fn f p q =>
    simp only [srenA] at hx
    split at hx
    · rename_i p' q' h1 h2
      cases hx
      cases hy with
      | fn _ _ _ F C hF hC g1 g2 =>
        have t1 := srenL_rel hρ h1 ⟨hF, g1⟩
        have t2 := srenL_rel hρ h2 ⟨hC, g2⟩
        exact .fn f _ _ _ _ t1.1 t2.1 t1.2 t2.2
    · cases hx
  | _ => exact sren1_rel hρ hx hy

theorem injB_spec : ∀ {ρ : List (Nat × Nat)}, injB ρ = true → ∀ {i i' j}, get ρ i = some j → get ρ i' = some j → i = i'
  | [], _, i, i', j, h1, _ => by simp [get] at h1
  | (k, v) :: r, h, i, i', j, h1, h2 => by
    simp only [injB, Bool.and_eq_true, List.all_eq_true] at h
    obtain ⟨ha, hr⟩ := h
    have hnv : ∀ {q u}, get r q = some u → u ≠ v := by
      intro q u hg
      have hm : ∀ {l : List (Nat × Nat)} {q u}, get l q = some u → (q, u) ∈ l := by
        intro l
        induction l with
        | nil => intro q u hg; simp [get] at hg
        | cons p l ih =>
          obtain ⟨k', v'⟩ := p
          intro q u hg
          rw [get_cons] at hg
          split at hg
          · rename_i e; subst e; cases hg; simp
          · exact List.mem_cons_of_mem _ (ih hg)
      have := (ha _ (hm hg)).2
      intro e; subst e
      rw [beq_self] at this; simp at this
    rw [get_cons] at h1 h2
    split at h1 <;> split at h2
    · omega
    · cases h1; exact absurd rfl (hnv h2)
    · cases h2; exact absurd rfl (hnv h1)
    · exact injB_spec hr h1 h2
theorem belowB_spec {n : Nat} : ∀ {ρ : List (Nat × Nat)}, belowB n ρ = true → ∀ {i j}, get ρ i = some j → i < n
  | [], _, i, j, h1 => by simp [get] at h1
  | (k, v) :: r, h, i, j, h1 => by
    simp only [belowB, Bool.and_eq_true] at h
    rw [get_cons] at h1
    split at h1
    · rename_i e; subst e
      have h' : k + 1 ≤ n := by simpa [Nat.blt] using h.1
      exact h'
    · exact belowB_spec h.2 h1
theorem fixB_spec {ρ : List (Nat × Nat)} : ∀ {p : Nat}, fixB ρ p = true → ∀ i, i < p → get ρ i = some i
  | 0, _, i, hi => by omega
  | k + 1, h, i, hi => by
    simp only [fixB, Bool.and_eq_true] at h
    obtain ⟨h1, h2⟩ := h
    by_cases hik : i = k
    · subst hik
      split at h1
      · rename_i j hj
        rw [hj, Nat.eq_of_beq_eq_true h1]
      · cases h1
    · exact fixB_spec h2 i (by omega)

theorem leS_get {ρ : List (Nat × Nat)} : ∀ {s : List (Nat × AV)} {σ : St}, LeS ρ s σ → ∀ {t x}, get s t = some x → ∃ y, srenA (get ρ) x = some y ∧ get σ.s t = some y
  | [], σ, _, t, x, hg => by simp [get] at hg
  | (k, z) :: r, σ, h, t, x, hg => by
    simp only [LeS] at h
    rw [get_cons] at hg
    split at hg
    · rename_i e; subst e; cases hg
      have := h.1
      split at this
      · rename_i y hy; exact ⟨y, hy, this⟩
      · exact this.elim
    · exact leS_get h.2 hg
theorem leH_get {ρ : List (Nat × Nat)} : ∀ {s : Hp} {σ : St}, LeH ρ s σ → ∀ {id o}, get s id = some o → ∃ j o', get ρ id = some j ∧ srenO (get ρ) o = some o' ∧ get σ.h j = some o'
  | [], σ, _, t, x, hg => by simp [get] at hg
  | (k, z) :: r, σ, h, t, x, hg => by
    simp only [LeH] at h
    rw [get_cons] at hg
    split at hg
    · rename_i e; subst e; cases hg
      have := h.1
      split at this
      · rename_i j o' hj ho; exact ⟨j, o', hj, ho, this⟩
      · exact this.elim
    · exact leH_get h.2 hg

theorem Le.sim {p : Nat} {s : St} (hle : Le p s σ) (sm : Sim N ι E σ a w) : ∃ ι', Sim N ι' E s a w ∧ Ex p ι σ.h E w ι' s.h E w := by
  obtain ⟨ρ, hb, hS, hH⟩ := hle
  simp only [Bool.and_eq_true] at hb
  obtain ⟨h1, h2, h3⟩ := hb
  let ι' : Inj := fun id => match get ρ id with
    | some j => ι j
    | none => none
  have hρ : ∀ id j, get ρ id = some j → ι' id = ι j := fun id j hj => by simp only [ι', hj]
  have hown : ∀ b, Own ι' s.h b → Own ι σ.h b := by
    rintro b ⟨id, o, base, g1, g2⟩
    obtain ⟨j, o', a1, a2, a3⟩ := leH_get hH g1
    exact ⟨j, o', base, a3, by rw [← hρ id j a1]; exact g2⟩
  refine ⟨ι', ⟨⟨fun id hid => ?_, fun id o hg => ?_, fun id id' o o' b base base' e1 e2 e3 e4 => ?_, sm.rep.bound⟩, fun t x hg => ?_, sm.size, sm.defers⟩,
    ⟨rfl, rfl, rfl, Nat.le_refl _, fun id q hid hq => by rw [hρ id id (fixB_spec h3 id hid)]; exact hq, fun _ _ _ => ⟨rfl, Iff.rfl⟩, fun b _ ho => hown b ho, fun _ h => h, fun _ _ => rfl, Nat.le_refl _⟩⟩
  · simp only [ι']
    split
    · rename_i j hj
      have := belowB_spec h2 hj
      omega
    · rfl
  · obtain ⟨j, o', a1, a2, a3⟩ := leH_get hH hg
    have ho := sm.rep.obj j o' a3
    cases o with
    | box cs =>
      simp only [srenO] at a2
      split at a2
      · rename_i ds hd
        cases a2
        obtain ⟨b, base, b1, b2, b3, b4⟩ := ho
        refine ⟨b, base, by rw [hρ id j a1]; exact b1, b2, b3, fun i c hc => ?_⟩
        obtain ⟨y, hy1, hy2⟩ := srenL_nth hd hc
        obtain ⟨u, c1, c2, c3⟩ := b4 i y hy1
        exact ⟨u, c1, c2, sren1_rel hρ hy2 c3⟩
      · cases a2
    | arr sz xs =>
      simp only [srenO, Option.some.injEq] at a2
      subst a2
      rcases ho with ⟨b1, b2⟩ | ⟨b, base, b1, b2⟩
      · exact .inl ⟨by rw [hρ id j a1]; exact b1, b2⟩
      · exact .inr ⟨b, base, by rw [hρ id j a1]; exact b1, b2⟩
  · obtain ⟨j, p1, a1, a2, a3⟩ := leH_get hH e1
    obtain ⟨j', p2, b1, b2, b3⟩ := leH_get hH e2
    rw [hρ id j a1] at e3
    rw [hρ id' j' b1] at e4
    have := sm.rep.sep _ _ _ _ _ _ _ a3 b3 e3 e4
    subst this
    exact injB_spec h1 a1 b1
  · obtain ⟨y, y1, y2⟩ := leS_get hS hg
    obtain ⟨v, v1, v2⟩ := sm.slots t y y2
    exact ⟨v, v1, srenA_rel hρ y1 v2⟩

theorem Lp.elim {p : Nat} {body : St → (Exit → St → Prop) → Prop} {Q : Exit → St → Prop} (h : Lp p body σ Q) : ∃ (G : Type) (S : G → St) (Inv : G → Prop) (μ : G → Nat), (∃ g, Inv g ∧ Le p (S g) σ) ∧
    ∀ g, Inv g → body (S g) fun e σ' => match e with
      | .normal => ∃ g', Inv g' ∧ μ g' < μ g ∧ Le p (S g') σ'
      | e => Q e σ' := h.out

theorem codeQ_sound {Γ : Ctx} (hN : Γ.N = N) (hm : P.follows .mixedOrders = true) : ∀ (c : Code) {σ : St} {a : Act} {w : World} {ι : Inj} {E : Nat → Prop} {Q : Exit → St → Prop}, Sim N ι E σ a w → codeQ P Γ c σ Q → c.wp P (LeftC P N Γ.np ι E σ w Q) a w := by
  intro c
  induction c with
  | skip => intro σ a w ι E Q s h; exact wp_skip ⟨σ, ι, E, h, s, Ext.refl.ex⟩
  | region id ops draw => intro σ a w ι E Q s h; exact regionQ_sound hN hm s h (fun a' w' ⟨σ', ι', E', k, s', x'⟩ => ⟨σ', ι', E', k, s', x'.ex⟩)
  | seq x y ihx ihy =>
    intro σ a w ι E Q s h
    simp only [codeQ] at h
    split at h
    · obtain ⟨G, S, Inv, h1, h2⟩ := h.out
      refine wp_seq (wp_mono (ihx s h1) ?_)
      rintro e a' w' ⟨σ', ι', E', k, s', x'⟩
      cases e with
      | normal =>
        obtain ⟨g, hg, hle⟩ := k
        obtain ⟨ι0, s0, x0⟩ := hle.sim s'
        exact wp_mono (ihy s0 (h2 g hg)) (fun e2 a2 w2 ⟨σ2, ι2, E2, k2, s2, x2⟩ => ⟨σ2, ι2, E2, k2, s2, (x'.trans x0).trans x2⟩)
      | exit i => exact ⟨σ', ι', E', k, s', x'⟩
      | goto l => exact ⟨σ', ι', E', k, s', x'⟩
      | ret => exact ⟨σ', ι', E', k, s', x'⟩
      | panic ch => exact ⟨σ', ι', E', k, s', x'⟩
      | outgrown => exact ⟨σ', ι', E', k, s', x'⟩
    · refine wp_seq (wp_mono (ihx s h) ?_)
      rintro e a' w' ⟨σ', ι', E', k, s', x'⟩
      cases e with
      | normal => exact wp_mono (ihy s' k) (fun e2 a2 w2 ⟨σ2, ι2, E2, k2, s2, x2⟩ => ⟨σ2, ι2, E2, k2, s2, x'.trans x2⟩)
      | exit i => exact ⟨σ', ι', E', k, s', x'⟩
      | goto l => exact ⟨σ', ι', E', k, s', x'⟩
      | ret => exact ⟨σ', ι', E', k, s', x'⟩
      | panic ch => exact ⟨σ', ι', E', k, s', x'⟩
      | outgrown => exact ⟨σ', ι', E', k, s', x'⟩
  | cond c x y ihx ihy =>
    intro σ a w ι E Q s h
    have hc := s.ev c
    simp only [codeQ] at h
    split at h
    · rename_i he; rw [he] at hc
      exact wp_cond (rel_v hc) (by simpa using ihx s h)
    · rename_i he; rw [he] at hc
      exact wp_cond (rel_v hc) (by simpa using ihy s h)
    · rename_i b he; rw [he] at hc
      obtain ⟨h1, h2⟩ := h.elim
      exact wp_cond_split (rel_toB hc rfl) (fun hb => ihx s (h1 hb)) (fun hb => ihy s (h2 hb))
    · exact h.elim
  | block id c ih =>
    intro σ a w ι E Q s h
    refine wp_block (wp_mono (ih s h) ?_)
    rintro e a' w' ⟨σ', ι', E', k, s', x'⟩
    cases e with
    | normal => exact ⟨σ', ι', E', k, s', x'⟩
    | exit i =>
      simp only at k
      simp only [Exit.inBlock]
      split at k
      · rename_i hb
        rw [if_pos (Nat.eq_of_beq_eq_true hb)]
        exact ⟨σ', ι', E', k, s', x'⟩
      · rename_i hb
        rw [if_neg (fun e => by subst e; rw [beq_self] at hb; cases hb)]
        exact ⟨σ', ι', E', k, s', x'⟩
    | goto l => exact ⟨σ', ι', E', k, s', x'⟩
    | ret => exact ⟨σ', ι', E', k, s', x'⟩
    | panic ch => exact ⟨σ', ι', E', k, s', x'⟩
    | outgrown => exact ⟨σ', ι', E', k, s', x'⟩
  | loop c ih =>
    intro σ a w ι E Q s h
    obtain ⟨G, S, Inv, μ, ⟨g, hg, hle⟩, hround⟩ := h.elim
    obtain ⟨ι0, s0, x0⟩ := hle.sim s
    refine wp_loop_ghost (fun m a' w' => ∃ g ι' E', μ g = m ∧ Inv g ∧ Sim N ι' E' (S g) a' w' ∧ Ex Γ.np ι σ.h E w ι' (S g).h E' w') (μ g) ⟨g, ι0, E, rfl, hg, s0, x0⟩ ?_
    rintro m a' w' ⟨g', ι', E', rfl, hg', s', x'⟩
    refine wp_mono (ih s' (hround g' hg')) ?_
    rintro e a2 w2 ⟨σ2, ι2, E2, k2, s2, x2⟩
    cases e with
    | normal =>
      obtain ⟨g2, hg2, hlt, hle2⟩ := k2
      obtain ⟨ι3, s3, x3⟩ := hle2.sim s2
      exact ⟨μ g2, hlt, g2, ι3, E2, rfl, hg2, s3, (x'.trans x2).trans x3⟩
    | exit i => exact ⟨σ2, ι2, E2, k2, s2, x'.trans x2⟩
    | goto l => exact ⟨σ2, ι2, E2, k2, s2, x'.trans x2⟩
    | ret => exact ⟨σ2, ι2, E2, k2, s2, x'.trans x2⟩
    | panic ch => exact ⟨σ2, ι2, E2, k2, s2, x'.trans x2⟩
    | outgrown => exact ⟨σ2, ι2, E2, k2, s2, x'.trans x2⟩
  | exit id => intro σ a w ι E Q s h; exact wp_exit ⟨σ, ι, E, h, s, Ext.refl.ex⟩
  | ret => intro σ a w ι E Q s h; exact wp_ret ⟨σ, ι, E, h, s, Ext.refl.ex⟩
  | label l => intro σ a w ι E Q s h; exact wp_label ⟨σ, ι, E, h, s, Ext.refl.ex⟩
  | rangeFunc => intro σ a w ι E Q s h; exact h.elim
  | scope => intro σ a w ι E Q s h; exact h.elim
  | goto => intro σ a w ι E Q s h; exact h.elim
  | refuse => intro σ a w ι E Q s h; exact h.elim

end
end Go.Vm
