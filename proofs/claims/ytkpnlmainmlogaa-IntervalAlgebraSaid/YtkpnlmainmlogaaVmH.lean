/- An abstract machine over the loaded code, part H: freezing, contracts, calls. -/
import Derived.Test.YtkpnlmainmlogaaVmG
set_option linter.unusedVariables false
set_option linter.unusedSimpArgs false
namespace Go.Vm

/-! ### Names in values -/
def refs1 : AV → List Nat
  | .op id _ => [id]
  | .ep id _ _ _ => [id]
  | .os id _ _ _ => [id]
  | _ => []
def refsL : List AV → List Nat
  | [] => []
  | x :: xs => refs1 x ++ refsL xs
def refsA : AV → List Nat
  | .agg cs => refsL cs
  | .fn _ a b => refsL a ++ refsL b
  | x => refs1 x
def refsAL : List AV → List Nat
  | [] => []
  | x :: xs => refsA x ++ refsAL xs
def elemN (i : Nat) : List Nat → Bool
  | [] => false
  | j :: l => match Nat.beq j i with
    | true => true
    | false => elemN i l
def dedup : List Nat → List Nat
  | [] => []
  | i :: l => match elemN i l with
    | true => dedup l
    | false => i :: dedup l
def dels (h : Hp) : List Nat → Hp
  | [] => h
  | i :: l => dels (del h i) l

/-! ### Freezing: own arrays and boxes in a value become values that are never written -/
def frz1 (h : Hp) (x : AV) (K : AV → Prop) : Prop :=
  match x with
  | .os id sz off len => (match get h id with
    | some (.arr sz' xs) => (match Nat.beq sz sz' with
      | true => Sl xs off len fun ys => K (.lst ys)
      | false => False)
    | _ => False)
  | .op id off => (match get h id with
    | some (.box cs) => (match cs.all AV.pure1 with
      | true => K (.fp (cs.drop off))
      | false => False)
    | _ => False)
  | .ep _ _ _ _ => False
  | x => K x
def frzL (h : Hp) : List AV → (List AV → Prop) → Prop
  | [], K => K []
  | x :: xs, K => frz1 h x fun y => frzL h xs fun ys => K (y :: ys)
def frzA (h : Hp) (x : AV) (K : AV → Prop) : Prop :=
  match x with
  | .agg cs => frzL h cs fun cs' => K (.agg cs')
  | .fn f a b => frzL h a fun a' => frzL h b fun b' => K (.fn f a' b')
  | x => frz1 h x K
def frzAL (h : Hp) : List AV → (List AV → Prop) → Prop
  | [], K => K []
  | x :: xs, K => frzA h x fun y => frzAL h xs fun ys => K (y :: ys)

/-- one cell, and no name in it -/
def AV.noref1 : AV → Bool
  | .v _ => true
  | .sb _ => true
  | .nils => true
  | .lst _ => true
  | .fp _ => true
  | .junk => true
  | .fn _ [] [] => true
  | _ => false
def AV.noref : AV → Bool
  | .agg cs => cs.all AV.noref1
  | .fn _ a b => a.all AV.noref1 && b.all AV.noref1
  | x => x.noref1
def objPure : Obj → Bool
  | .box cs => cs.all AV.pure1
  | .arr _ _ => true
/-- the own memory behind a call -/
def mergeH : List Nat → List Obj → Nat → Hp → Hp
  | _, [], _, base => base
  | [], o :: os, n, base => (n, o) :: mergeH [] os (n + 1) base
  | i :: ids, o :: os, n, base => (i, o) :: mergeH ids os n base

def enumH : Nat → List Obj → Hp
  | _, [] => []
  | k, o :: os => (k, o) :: enumH (k + 1) os

def okFn (P : Program) (f : FuncId) : Bool :=
  match P.funcs[f]? with
  | some fn => fn.body.isSome && !(fn.name == "runtime.NumGoroutine")
  | none => false

/-- A contract: function f, called with these arguments where the own memory of its caller that it may touch is hs (names 0, 1, ..), returns; its result and that memory behind the call satisfy K. -/
structure ACall (P : Program) (f : FuncId) (args : List AV) (hs : List Obj) (K : AV → List Obj → Prop) : Prop where
  out : okFn P f = true ∧ ∀ (ι : Inj) (E : Nat → Prop) (w : World) (vals : Array Value), Rep ι E w hs.length (enumH 0 hs) → RL E w ι args vals →
    Calls P f vals w fun e w' => ∃ v r hs' ι' E', e = .returned v ∧ K r hs' ∧ Rep ι' E' w' hs'.length (enumH 0 hs') ∧ Rel E' w' ι' r v ∧ Ext ι (enumH 0 hs) E w ι' (enumH 0 hs') E' w'

section
variable {P : Program} {E : Nat → Prop} {w : World} {ι : Inj} {n : Nat} {h : Hp}

theorem ACall.elim {f : FuncId} {args : List AV} {hs : List Obj} {K : AV → List Obj → Prop} (hc : ACall P f args hs K) : okFn P f = true ∧ ∀ (ι : Inj) (E : Nat → Prop) (w : World) (vals : Array Value), Rep ι E w hs.length (enumH 0 hs) → RL E w ι args vals →
    Calls P f vals w fun e w' => ∃ v r hs' ι' E', e = .returned v ∧ K r hs' ∧ Rep ι' E' w' hs'.length (enumH 0 hs') ∧ Rel E' w' ι' r v ∧ Ext ι (enumH 0 hs) E w ι' (enumH 0 hs') E' w' := by
  exact hc.out
theorem ACall.intro {f : FuncId} {args : List AV} {hs : List Obj} {K : AV → List Obj → Prop} (h1 : okFn P f = true) (h2 : ∀ (ι : Inj) (E : Nat → Prop) (w : World) (vals : Array Value), Rep ι E w hs.length (enumH 0 hs) → RL E w ι args vals →
    Calls P f vals w fun e w' => ∃ v r hs' ι' E', e = .returned v ∧ K r hs' ∧ Rep ι' E' w' hs'.length (enumH 0 hs') ∧ Rel E' w' ι' r v ∧ Ext ι (enumH 0 hs) E w ι' (enumH 0 hs') E' w') : ACall P f args hs K := by
  exact ⟨h1, h2⟩
theorem ACall.mono {f : FuncId} {args : List AV} {hs : List Obj} {K K' : AV → List Obj → Prop} (hc : ACall P f args hs K) (hk : ∀ r hs', K r hs' → K' r hs') : ACall P f args hs K' := by
  obtain ⟨h1, h2⟩ := hc.elim
  refine .intro h1 (fun ι E w vals r hr => (h2 ι E w vals r hr).mono ?_)
  rintro e w' ⟨v, r, hs', ι', E', a, b, c⟩
  exact ⟨v, r, hs', ι', E', a, hk _ _ b, c⟩

theorem get_dels (h : Hp) (l : List Nat) (j : Nat) : get (dels h l) j = if j ∈ l then none else get h j := by
  induction l generalizing h with
  | nil => simp [dels]
  | cons i l ih =>
    simp only [dels, ih, get_del, List.mem_cons]
    by_cases h1 : j ∈ l
    · simp [h1]
    · by_cases h2 : i = j
      · subst h2; simp [h1]
      · simp [h1, h2, Ne.symm h2]
theorem Sub.dels (l : List Nat) : Sub (dels h l) h := fun id o hg => by
  rw [get_dels] at hg
  split at hg
  · cases hg
  · exact hg

/-- own blocks are let go: they count as frozen from now on -/
def Eout (ι : Inj) (h : Hp) (S : Nat → Prop) (E : Nat → Prop) : Nat → Prop := fun b => E b ∧ ¬ ∃ id o base, S id ∧ get h id = some o ∧ ι id = some (some (b, base))

theorem keeps_out (S : Nat → Prop) : Keeps E w (Eout ι h S E) w := ⟨Nat.le_refl _, fun b _ hE => ⟨rfl, fun hh => hE hh.1⟩, fun _ h => h, fun _ _ => rfl⟩

theorem release (r : Rep ι E w n h) (S : Nat → Prop) {h0 : Hp} (hs : Sub h0 h) (hS : ∀ id o, get h0 id = some o → ¬ S id) : Rep ι (Eout ι h S E) w n h0 ∧ Ext ι h E w ι h0 (Eout ι h S E) w := by
  refine ⟨⟨r.fresh, fun id o hg => (r.obj id o (hs _ _ hg)).keep (keeps_out S) (fun _ _ h => h) (fun b base hb => ⟨r.own_E ⟨id, o, base, hs _ _ hg, hb⟩, ?_⟩) (fun _ _ _ => rfl),
    fun id id' o o' b base base' h1 h2 => r.sep id id' o o' b base base' (hs _ _ h1) (hs _ _ h2), fun b hb => r.bound b hb.1⟩,
    ⟨rfl, rfl, rfl, Nat.le_refl _, fun _ _ h => h, fun b hb hn => ⟨rfl, fun h => h.1, fun h => ⟨h, ?_⟩⟩, fun b hb ho => ?_, fun _ h => h, fun _ _ => rfl, Nat.le_refl _⟩⟩
  · rintro ⟨id', o', base', h1, h2, h3⟩
    have := r.sep _ _ _ _ _ _ _ (hs _ _ hg) h2 hb h3
    subst this
    exact hS _ _ hg h1
  · rintro ⟨id', o', base', h1, h2, h3⟩
    exact hn ⟨id', o', base', h2, h3⟩
  · obtain ⟨id, o, base, h1, h2⟩ := ho
    exact ⟨id, o, base, hs _ _ h1, h2⟩

theorem frz1_sound (r : Rep ι E w n h) {S : Nat → Prop} {x : AV} {v : Value} {K : AV → Prop} (hx : Rel E w ι x v) (hS : ∀ id, id ∈ refs1 x → S id) (hq : frz1 h x K) : ∃ y, Rel (Eout ι h S E) w ι y v ∧ K y ∧ refs1 y = [] ∧ (y = x ∨ (∃ ys, y = .lst ys) ∨ ∃ cs, y = .fp cs) := by
  have hk : Keeps E w (Eout ι h S E) w := keeps_out S
  have same : frz1 h x K = K x → refs1 x = [] → ∃ y, Rel (Eout ι h S E) w ι y v ∧ K y ∧ refs1 y = [] ∧ (y = x ∨ (∃ ys, y = .lst ys) ∨ ∃ cs, y = .fp cs) := fun e hr => ⟨x, hx.keep hk (fun _ _ h => h), e ▸ hq, hr, .inl rfl⟩
  cases x with
  | os id sz off len =>
    simp only [frz1] at hq
    cases hg : get h id with
    | none => simp [hg] at hq
    | some ob =>
      cases ob with
      | box _ => simp [hg] at hq
      | arr sz' xs =>
        simp only [hg] at hq
        cases hs : Nat.beq sz sz' with
        | false => simp [hs] at hq
        | true =>
          simp only [hs] at hq
          have hs := Nat.eq_of_beq_eq_true hs
          subst hs
          obtain ⟨h1, h2⟩ := hq.elim
          refine ⟨_, ?_, h2, rfl, .inr (.inl ⟨_, rfl⟩)⟩
          have hz := sz_of r hg
          have hx' := hx
          cases hx with
          | osz _ _ _ a => rw [List.take_zero]; exact .lnil _ _
          | os _ _ _ _ b base cap hι hc hcell =>
            have hE : ¬ Eout ι h S E b := fun hh => hh.2 ⟨id, _, base, hS id (by simp [refs1]), hg, hι⟩
            have hlen : ((xs.drop off).take len).length = len := by simp; omega
            have hb := own_ne r hg hι
            rcases r.obj id _ hg with ⟨h3, _⟩ | ⟨b', base', h3, h4, h5, h6, h7⟩
            · rw [hι] at h3; cases h3
            · rw [hι] at h3; cases h3
              have hget : ∀ (i : Nat) x, ((xs.drop off).take len)[i]? = some x → xs[off + i]? = some x := by
                intro i x hx
                rw [List.getElem?_take] at hx
                split at hx
                · rwa [List.getElem?_drop] at hx
                · cases hx
              refine .lst _ b _ _ cap sz hE hb hlen.symm hc (fun i x hx => h6 _ x (hget i x hx)) (fun i j => (w.cell? ⟨b, base + off * sz + i * sz + j, none⟩).getD default) (fun i x j y hx hy => ?_) (fun i x j y hx hy => ?_)
              · obtain ⟨u, hu, _⟩ := h7 _ x j y (hget i x hx) hy
                rw [show base + (off + i) * sz + j = base + off * sz + i * sz + j by rw [Nat.add_mul]; omega] at hu
                simp [hu]
              · obtain ⟨u, hu, _, hr⟩ := h7 _ x j y (hget i x hx) hy
                rw [show base + (off + i) * sz + j = base + off * sz + i * sz + j by rw [Nat.add_mul]; omega] at hu
                simp only [hu, Option.getD_some]
                exact hr.keep hk (fun _ _ h => h)
  | op id off =>
    simp only [frz1] at hq
    cases hg : get h id with
    | none => simp [hg] at hq
    | some ob =>
      cases ob with
      | arr _ _ => simp [hg] at hq
      | box cs =>
        simp only [hg] at hq
        cases hp : cs.all AV.pure1 with
        | false => simp [hp] at hq
        | true =>
          simp only [hp] at hq
          refine ⟨_, ?_, hq, rfl, .inr (.inr ⟨_, rfl⟩)⟩
          cases hx with
          | op _ _ b base hι =>
            have hE : ¬ Eout ι h S E b := fun hh => hh.2 ⟨id, _, base, hS id (by simp [refs1]), hg, hι⟩
            obtain ⟨b', base', h3, h4, h5, h6⟩ := r.obj id _ hg
            rw [hι] at h3; cases h3
            refine rel_fp hE h5 (fun j y hy => ?_)
            rw [List.getElem?_drop] at hy
            obtain ⟨u, hu, _, hr⟩ := h6 _ y hy
            rw [List.all_eq_true] at hp
            exact ⟨u, by rw [Nat.add_assoc]; exact hu, (hr.pure1 (hp y (List.mem_of_getElem? hy))).keep hk (fun _ _ h => h)⟩
  | ep => simp [frz1] at hq
  | _ => exact same rfl rfl

theorem RL.cons {E' : Nat → Prop} {ι' : Inj} {x : AV} {v : Value} {xs : List AV} {vs : List Value} (h1 : Rel E' w ι' x v) (h2 : RL E' w ι' xs ⟨vs⟩) : RL E' w ι' (x :: xs) ⟨v :: vs⟩ := by
  refine ⟨by simp; exact h2.1, fun i a b ha hb => ?_⟩
  cases i with
  | zero => simp at ha hb; subst ha; subst hb; exact h1
  | succ i => exact h2.2 i a b (by simpa using ha) (by simpa using hb)
theorem RL.head {x : AV} {xs : List AV} {c : Array Value} (h : RL E w ι (x :: xs) c) : ∃ v vs, c = ⟨v :: vs⟩ ∧ Rel E w ι x v ∧ RL E w ι xs ⟨vs⟩ := by
  obtain ⟨l⟩ := c
  cases l with
  | nil => have := h.1; simp at this
  | cons v vs =>
    refine ⟨v, vs, rfl, h.2 0 x v rfl rfl, by have := h.1; simp at this ⊢; exact this, fun i a b ha hb => h.2 (i + 1) a b (by simpa using ha) (by simpa using hb)⟩
theorem RL.nil {c : Array Value} (h : RL E w ι [] c) : c = #[] := by
  have := h.1; simp at this; exact Array.eq_empty_of_size_eq_zero this.symm

theorem frzL_sound (r : Rep ι E w n h) {S : Nat → Prop} : ∀ {xs : List AV} {c : Array Value} {K : List AV → Prop}, RL E w ι xs c → (∀ id, id ∈ refsL xs → S id) → frzL h xs K → ∃ ys, RL (Eout ι h S E) w ι ys c ∧ K ys ∧ refsL ys = []
  | [], c, K, hx, _, hq => by
    cases hx.nil
    exact ⟨[], rl_nil, hq, rfl⟩
  | x :: xs, c, K, hx, hS, hq => by
    obtain ⟨v, vs, rfl, h1, h2⟩ := hx.head
    obtain ⟨y, a1, a2, a3, _⟩ := frz1_sound r h1 (fun id hid => hS id (by simp [refsL, hid])) hq
    obtain ⟨ys, b1, b2, b3⟩ := frzL_sound r h2 (fun id hid => hS id (by simp [refsL, hid])) a2
    exact ⟨y :: ys, RL.cons a1 b1, b2, by simp [refsL, a3, b3]⟩

theorem frzA_sound (r : Rep ι E w n h) {S : Nat → Prop} {x : AV} {v : Value} {K : AV → Prop} (hx : Rel E w ι x v) (hS : ∀ id, id ∈ refsA x → S id) (hq : frzA h x K) : ∃ y, Rel (Eout ι h S E) w ι y v ∧ K y ∧ refsA y = [] := by
  have atom : frzA h x K = frz1 h x K → refsA x = refs1 x → ∃ y, Rel (Eout ι h S E) w ι y v ∧ K y ∧ refsA y = [] := by
    intro e1 e2
    rw [e1] at hq
    rw [e2] at hS
    obtain ⟨y, a1, a2, a3, a4⟩ := frz1_sound r hx hS hq
    refine ⟨y, a1, a2, ?_⟩
    rcases a4 with rfl | ⟨ys, rfl⟩ | ⟨cs, rfl⟩
    · rw [e2]; exact a3
    · rfl
    · rfl
  cases x with
  | agg cs =>
    cases hx with
    | agg _ c hs h =>
      obtain ⟨ys, b1, b2, b3⟩ := frzL_sound r (⟨hs, h⟩ : RL E w ι cs c) hS hq
      exact ⟨_, .agg _ _ b1.1 b1.2, b2, b3⟩
  | fn f a b =>
    cases hx with
    | fn _ _ _ F C hF hC h1 h2 =>
      obtain ⟨ys, b1, b2, b3⟩ := frzL_sound r (⟨hF, h1⟩ : RL E w ι a F) (fun id hid => hS id (by simp [refsA, hid])) hq
      obtain ⟨zs, c1, c2, c3⟩ := frzL_sound r (⟨hC, h2⟩ : RL E w ι b C) (fun id hid => hS id (by simp [refsA, hid])) b2
      exact ⟨_, .fn f _ _ _ _ b1.1 c1.1 b1.2 c1.2, c2, by simp [refsA, b3, c3]⟩
  | _ => exact atom rfl rfl

theorem frzAL_sound (r : Rep ι E w n h) {S : Nat → Prop} : ∀ {xs : List AV} {c : Array Value} {K : List AV → Prop}, RL E w ι xs c → (∀ id, id ∈ refsAL xs → S id) → frzAL h xs K → ∃ ys, RL (Eout ι h S E) w ι ys c ∧ K ys ∧ refsAL ys = []
  | [], c, K, hx, _, hq => by
    cases hx.nil
    exact ⟨[], rl_nil, hq, rfl⟩
  | x :: xs, c, K, hx, hS, hq => by
    obtain ⟨v, vs, rfl, h1, h2⟩ := hx.head
    obtain ⟨y, a1, a2, a3⟩ := frzA_sound r h1 (fun id hid => hS id (by simp [refsAL, hid])) hq
    obtain ⟨ys, b1, b2, b3⟩ := frzAL_sound r h2 (fun id hid => hS id (by simp [refsAL, hid])) a2
    exact ⟨y :: ys, RL.cons a1 b1, b2, by simp [refsAL, a3, b3]⟩

theorem Rel.noref1 {x : AV} {v : Value} {ι' : Inj} (hx : Rel E w ι x v) (hn : x.noref1 = true) : Rel E w ι' x v := by
  cases hx with
  | v => exact .v _
  | sb b => exact .sb b
  | nils => exact .nils
  | lnil a c => exact .lnil a c
  | lst xs b off n cap sz hE hb hnn hcap hz g hg h => exact .lst xs b off n cap sz hE hb hnn hcap hz g hg h
  | fp cs b off hE hb g hg h => exact .fp cs b off hE hb g hg h
  | junk => exact .junk _
  | fn f fs cs F C hF hC h1 h2 =>
    cases fs <;> cases cs <;> simp [AV.noref1] at hn
    exact .fn f [] [] F C hF hC (fun i x y hx _ => by simp at hx) (fun i x y hx _ => by simp at hx)
  | _ => simp [AV.noref1] at hn

theorem RL.noref1 {xs : List AV} {c : Array Value} {ι' : Inj} (hx : RL E w ι xs c) (hn : xs.all AV.noref1 = true) : RL E w ι' xs c := by
  rw [List.all_eq_true] at hn
  exact ⟨hx.1, fun i x y h1 h2 => (hx.2 i x y h1 h2).noref1 (hn x (List.mem_of_getElem? h1))⟩

theorem Rel.noref {x : AV} {v : Value} {ι' : Inj} (hx : Rel E w ι x v) (hn : x.noref = true) : Rel E w ι' x v := by
  cases x with
  | agg cs =>
    cases hx with
    | agg _ c hs h =>
      have := RL.noref1 (ι' := ι') (⟨hs, h⟩ : RL E w ι cs c) hn
      exact .agg _ _ this.1 this.2
  | fn f a b =>
    cases hx with
    | fn _ _ _ F C hF hC h1 h2 =>
      simp only [AV.noref, Bool.and_eq_true] at hn
      have t1 := RL.noref1 (ι' := ι') (⟨hF, h1⟩ : RL E w ι a F) hn.1
      have t2 := RL.noref1 (ι' := ι') (⟨hC, h2⟩ : RL E w ι b C) hn.2
      exact .fn f _ _ _ _ t1.1 t2.1 t1.2 t2.2
  | _ => exact Rel.noref1 hx hn

theorem RL.noref {xs : List AV} {c : Array Value} {ι' : Inj} (hx : RL E w ι xs c) (hn : xs.all AV.noref = true) : RL E w ι' xs c := by
  rw [List.all_eq_true] at hn
  exact ⟨hx.1, fun i x y h1 h2 => (hx.2 i x y h1 h2).noref (hn x (List.mem_of_getElem? h1))⟩

theorem ORel.pure {id id' : Nat} {o : Obj} {ι' : Inj} (ho : ORel E w ι id o) (hp : objPure o = true) (he : ι' id' = ι id) : ORel E w ι' id' o := by
  cases o with
  | box cs =>
    obtain ⟨b, base, h1, h2, h3, h4⟩ := ho
    simp only [objPure, List.all_eq_true] at hp
    refine ⟨b, base, by rw [he]; exact h1, h2, h3, fun i c hc => ?_⟩
    obtain ⟨u, h5, h6, h7⟩ := h4 i c hc
    exact ⟨u, h5, h6, h7.pure1 (hp c (List.mem_of_getElem? hc))⟩
  | arr sz xs =>
    rcases ho with ⟨h1, h2⟩ | ⟨b, base, h1, h2⟩
    · exact .inl ⟨by rw [he]; exact h1, h2⟩
    · exact .inr ⟨b, base, by rw [he]; exact h1, h2⟩

theorem get_enum : ∀ (os : List Obj) (k id : Nat), get (enumH k os) id = if k ≤ id then os[id - k]? else none
  | [], k, id => by simp [enumH, get]
  | o :: os, k, id => by
    simp only [enumH, get_cons, get_enum os (k + 1) id]
    by_cases h1 : k = id
    · subst h1; simp
    · rw [if_neg h1]
      by_cases h2 : k ≤ id
      · rw [if_pos (by omega), if_pos h2, show id - k = (id - (k + 1)) + 1 by omega]; rfl
      · rw [if_neg (by omega), if_neg h2]

theorem get_merge : ∀ (ids : List Nat) (hs : List Obj) (n : Nat) (base : Hp) (id : Nat) (o : Obj), get (mergeH ids hs n base) id = some o →
    (∃ j : Nat, ids[j]? = some id ∧ hs[j]? = some o) ∨ (∃ j : Nat, id = n + j ∧ hs[ids.length + j]? = some o) ∨ get base id = some o
  | [], [], n, base, id, o, h => .inr (.inr h)
  | [], x :: hs, n, base, id, o, h => by
    simp only [mergeH, get_cons] at h
    split at h
    · rename_i e; subst e; cases h
      exact .inr (.inl ⟨0, rfl, rfl⟩)
    · rcases get_merge [] hs (n + 1) base id o h with ⟨j, h1, _⟩ | ⟨j, h1, h2⟩ | h1
      · simp at h1
      · exact .inr (.inl ⟨j + 1, by omega, by simpa using h2⟩)
      · exact .inr (.inr h1)
  | i :: ids, [], n, base, id, o, h => .inr (.inr h)
  | i :: ids, x :: hs, n, base, id, o, h => by
    simp only [mergeH, get_cons] at h
    split at h
    · rename_i e; subst e; cases h
      exact .inl ⟨0, rfl, rfl⟩
    · rcases get_merge ids hs n base id o h with ⟨j, h1, h2⟩ | ⟨j, h1, h2⟩ | h1
      · exact .inl ⟨j + 1, by simpa using h1, by simpa using h2⟩
      · exact .inr (.inl ⟨j, h1, by simp only [List.length_cons]; rw [show ids.length + 1 + j = (ids.length + j) + 1 by omega]; exact h2⟩)
      · exact .inr (.inr h1)

/-- the callee's names -/
def calleeInj (ι : Inj) (ids : List Nat) : Inj := fun j => match ids[j]? with
  | some id => ι id
  | none => none

theorem callee_rep (r : Rep ι E w n h) {ids : List Nat} {objs : List Obj} (hnd : ids.Nodup) (hl : ids.length = objs.length) (ho : ∀ (j : Nat) id o, ids[j]? = some id → objs[j]? = some o → get h id = some o) (hp : ∀ o, o ∈ objs → objPure o = true) :
    Rep (calleeInj ι ids) E w objs.length (enumH 0 objs) := by
  have hget : ∀ (j : Nat) o, get (enumH 0 objs) j = some o → ∃ id, ids[j]? = some id ∧ objs[j]? = some o ∧ get h id = some o ∧ calleeInj ι ids j = ι id := by
    intro j o hj
    rw [get_enum] at hj
    simp only [Nat.zero_le, if_true, Nat.sub_zero] at hj
    have hlt : j < ids.length := by
      rw [hl]
      rcases Nat.lt_or_ge j objs.length with h | h
      · exact h
      · simp [h] at hj
    have hi := List.getElem?_eq_getElem hlt
    exact ⟨_, hi, hj, ho _ _ _ hi hj, by simp [calleeInj, hi]⟩
  refine ⟨fun j hj => ?_, fun j o hj => ?_, fun j j' o o' b base base' h1 h2 h3 h4 => ?_, r.bound⟩
  · simp [calleeInj, List.getElem?_eq_none (show ids.length ≤ j by omega)]
  · obtain ⟨id, a1, a2, a3, a4⟩ := hget j o hj
    exact (r.obj id o a3).pure (hp o (List.mem_of_getElem? a2)) a4
  · obtain ⟨id, a1, a2, a3, a4⟩ := hget j o h1
    obtain ⟨id', b1, b2, b3, b4⟩ := hget j' o' h2
    rw [a4] at h3; rw [b4] at h4
    have := r.sep _ _ _ _ _ _ _ a3 b3 h3 h4
    subst this
    have hj1 : j < ids.length := by
      rcases Nat.lt_or_ge j ids.length with h | h
      · exact h
      · simp [h] at a1
    exact (List.getElem?_inj hj1 hnd).1 (a1.trans b1.symm)

theorem merge_rep (r : Rep ι E w n h) {ids : List Nat} {objs hs' : List Obj} (hnd : ids.Nodup) (hl : ids.length = objs.length) (ho : ∀ (j : Nat) id o, ids[j]? = some id → objs[j]? = some o → get h id = some o)
    {ι' : Inj} {E' : Nat → Prop} {w' : World} (hle : ids.length ≤ hs'.length) (hp : ∀ o, o ∈ hs' → objPure o = true) (r' : Rep ι' E' w' hs'.length (enumH 0 hs')) (x : Ext (calleeInj ι ids) (enumH 0 objs) E w ι' (enumH 0 hs') E' w') :
    Rep (fun id => if id < n then ι id else ι' (ids.length + (id - n))) E' w' (n + (hs'.length - ids.length)) (mergeH ids hs' n (dels h ids)) ∧
    Ext ι h E w (fun id => if id < n then ι id else ι' (ids.length + (id - n))) (mergeH ids hs' n (dels h ids)) E' w' := by
  have hlt : ∀ id p, ι id = some p → id < n := by
    intro id p hp
    rcases Nat.lt_or_ge id n with h | h
    · exact h
    · rw [r.fresh id h] at hp; cases hp
  have hget0 : ∀ {id o}, get h id = some o → id < n := by
    intro id o hg
    have := r.obj id o hg
    cases o with
    | box cs => obtain ⟨b, base, h1, _⟩ := this; exact hlt _ _ h1
    | arr sz xs =>
      rcases this with ⟨h1, _⟩ | ⟨b, base, h1, _⟩
      · exact hlt _ _ h1
      · exact hlt _ _ h1
  have hidin : ∀ {j id : Nat}, ids[j]? = some id → ∃ o, objs[j]? = some o ∧ get h id = some o := by
    intro j id hj
    have hj' : j < objs.length := by
      rw [← hl]
      rcases Nat.lt_or_ge j ids.length with h | h
      · exact h
      · simp [h] at hj
    exact ⟨_, List.getElem?_eq_getElem hj', ho _ _ _ hj (List.getElem?_eq_getElem hj')⟩
  -- the callee's names mean what the caller's do
  have hcal : ∀ {j id : Nat}, ids[j]? = some id → ι' j = ι id := by
    intro j id hj
    obtain ⟨o, h1, h2⟩ := hidin hj
    have h3 : calleeInj ι ids j = ι id := by simp [calleeInj, hj]
    cases hq : ι id with
    | none =>
      have := r.obj id o h2
      cases o with
      | box cs => obtain ⟨b, base, h4, _⟩ := this; rw [hq] at h4; cases h4
      | arr sz xs =>
        rcases this with ⟨h4, _⟩ | ⟨b, base, h4, _⟩ <;> (rw [hq] at h4; cases h4)
    | some p => exact x.inj j p (by rw [h3, hq])
  have hown : ∀ {b}, Own (calleeInj ι ids) (enumH 0 objs) b → ∃ (j id : Nat) (o : Obj) (base : Nat), ids[j]? = some id ∧ get h id = some o ∧ ι id = some (some (b, base)) := by
    rintro b ⟨j, o, base, h1, h2⟩
    rw [get_enum] at h1
    simp only [Nat.zero_le, if_true, Nat.sub_zero] at h1
    have hj : j < ids.length := by
      rw [hl]
      rcases Nat.lt_or_ge j objs.length with h | h
      · exact h
      · simp [h] at h1
    have hi := List.getElem?_eq_getElem hj
    refine ⟨j, _, o, base, hi, ho _ _ _ hi h1, ?_⟩
    simp only [calleeInj, hi] at h2; exact h2
  have hnotown : ∀ {id o b base}, get (dels h ids) id = some o → ι id = some (some (b, base)) → ¬ Own (calleeInj ι ids) (enumH 0 objs) b := by
    intro id o b base hg hb hO
    obtain ⟨j, id', o', base', h1, h2, h3⟩ := hown hO
    have := r.sep _ _ _ _ _ _ _ (Sub.dels ids _ _ hg) h2 hb h3
    subst this
    rw [get_dels, if_pos (List.mem_of_getElem? h1)] at hg
    cases hg
  have hin : ∀ id p, ι id = some p → (fun id => if id < n then ι id else ι' (ids.length + (id - n))) id = some p := by
    intro id p hp
    simp only [hlt id p hp, if_true]; exact hp
  have hk : ∀ b, b < w.heap.size → ¬ Own (calleeInj ι ids) (enumH 0 objs) b → w'.heap[b]? = w.heap[b]? ∧ (E' b ↔ E b) := x.old
  have hkeep : Keeps E w E' w' := ⟨x.size, fun b hb hE => by
    have hno : ¬ Own (calleeInj ι ids) (enumH 0 objs) b := fun hO => by
      obtain ⟨j, id, o, base, h1, h2, h3⟩ := hown hO
      exact hE (r.own_E ⟨id, o, base, h2, h3⟩)
    obtain ⟨a, c⟩ := hk b hb hno
    exact ⟨a, fun h => hE (c.1 h)⟩, x.some, fun a ha => x.mark a (lt_of_cell ha)⟩
  refine ⟨⟨fun id hid => ?_, fun id o hg => ?_, fun id id' o o' b base base' h1 h2 h3 h4 => ?_, r'.bound⟩, ⟨x.os, x.tape, x.output, x.size, hin, fun b hb hno => ?_, fun b hb hO => ?_, x.some, x.mark, x.drawn⟩⟩
  · simp only [show ¬ id < n by omega, if_false]
    exact r'.fresh _ (by omega)
  · rcases get_merge _ _ _ _ _ _ hg with ⟨j, h1, h2⟩ | ⟨j, rfl, h2⟩ | h1
    · obtain ⟨o', _, h3⟩ := hidin h1
      have hj : get (enumH 0 hs') j = some o := by rw [get_enum]; simpa using h2
      refine (r'.obj j o hj).pure (hp o (List.mem_of_getElem? h2)) ?_
      simp only [hget0 h3, if_true]; exact (hcal h1).symm
    · have hj : get (enumH 0 hs') (ids.length + j) = some o := by rw [get_enum]; simpa using h2
      refine (r'.obj _ o hj).pure (hp o (List.mem_of_getElem? h2)) ?_
      simp
      intro h; omega
    · have hg' := Sub.dels ids _ _ h1
      refine (r.obj id o hg').keep hkeep hin (fun b base hb => ?_) (fun b base hb => ?_)
      · have := own_ne r hg' hb
        exact (hk b this (hnotown h1 hb)).2.2 (r.own_E ⟨id, o, base, hg', hb⟩)
      · exact (hk b (own_ne r hg' hb) (hnotown h1 hb)).1
  · -- apart
    have cls : ∀ {id o b base}, get (mergeH ids hs' n (dels h ids)) id = some o → (if id < n then ι id else ι' (ids.length + (id - n))) = some (some (b, base)) →
        (∃ j : Nat, get (enumH 0 hs') j = some o ∧ ι' j = some (some (b, base)) ∧ ((ids[j]? = some id ∧ id < n) ∨ (j = ids.length + (id - n) ∧ n ≤ id))) ∨ (get (dels h ids) id = some o ∧ ι id = some (some (b, base)) ∧ id < n) := by
      intro id o b base hg hb
      rcases get_merge _ _ _ _ _ _ hg with ⟨j, h1, h2⟩ | ⟨j, rfl, h2⟩ | h1
      · obtain ⟨o', _, h3⟩ := hidin h1
        rw [if_pos (hget0 h3)] at hb
        exact .inl ⟨j, by rw [get_enum]; simpa using h2, by rw [hcal h1]; exact hb, .inl ⟨h1, hget0 h3⟩⟩
      · rw [if_neg (by omega)] at hb
        exact .inl ⟨ids.length + j, by rw [get_enum]; simpa using h2, by simpa using hb, .inr ⟨by omega, by omega⟩⟩
      · have hl' := hget0 (Sub.dels ids _ _ h1)
        rw [if_pos hl'] at hb
        exact .inr ⟨h1, hb, hl'⟩
    have mixed : ∀ {id o b base j o' base'}, get (dels h ids) id = some o → ι id = some (some (b, base)) → get (enumH 0 hs') j = some o' → ι' j = some (some (b, base')) → False := by
      intro id o b base j o' base' a1 a2 a3 a4
      have hb := own_ne r (Sub.dels ids _ _ a1) a2
      exact hnotown a1 a2 (x.own b hb ⟨j, o', base', a3, a4⟩)
    rcases cls h1 h3 with ⟨j, a1, a2, a3⟩ | ⟨a1, a2, a3⟩ <;> rcases cls h2 h4 with ⟨j', b1, b2, b3⟩ | ⟨b1, b2, b3⟩
    · have := r'.sep _ _ _ _ _ _ _ a1 b1 a2 b2
      subst this
      rcases a3 with ⟨c1, c2⟩ | ⟨c1, c2⟩ <;> rcases b3 with ⟨d1, d2⟩ | ⟨d1, d2⟩
      · rw [c1] at d1; cases d1; rfl
      · have : j < ids.length := by
          rcases Nat.lt_or_ge j ids.length with h | h
          · exact h
          · simp [h] at c1
        omega
      · have : j < ids.length := by
          rcases Nat.lt_or_ge j ids.length with h | h
          · exact h
          · simp [h] at d1
        omega
      · omega
    · exact (mixed b1 b2 a1 a2).elim
    · exact (mixed a1 a2 b1 b2).elim
    · exact r.sep _ _ _ _ _ _ _ (Sub.dels ids _ _ a1) (Sub.dels ids _ _ b1) a2 b2
  · exact hk b hb (fun hO => by
      obtain ⟨j, id, o, base, h1, h2, h3⟩ := hown hO
      exact hno ⟨id, o, base, h2, h3⟩)
  · obtain ⟨id, o, base, hg, hb'⟩ := hO
    rcases get_merge _ _ _ _ _ _ hg with ⟨j, h1, h2⟩ | ⟨j, rfl, h2⟩ | h1
    · obtain ⟨o', _, h3⟩ := hidin h1
      simp only [hget0 h3, if_true] at hb'
      exact ⟨id, o', base, h3, hb'⟩
    · simp only [show ¬ n + j < n by omega, if_false] at hb'
      have hO : Own ι' (enumH 0 hs') b := ⟨ids.length + j, o, base, by rw [get_enum]; simpa using h2, by simpa using hb'⟩
      obtain ⟨j', id', o', base', a1, a2, a3⟩ := hown (x.own b hb hO)
      exact ⟨id', o', base', a2, a3⟩
    · have hl' := hget0 (Sub.dels ids _ _ h1)
      simp only [hl', if_true] at hb'
      exact ⟨id, o, base, Sub.dels ids _ _ h1, hb'⟩

end

/-! ### Names changed -/
def ren1 (ρ : Nat → Option Nat) (x : AV) : AV :=
  match x with
  | .op id off => (match ρ id with
    | some j => .op j off
    | none => .junk)
  | .ep id sz i off => (match ρ id with
    | some j => .ep j sz i off
    | none => .junk)
  | .os id sz off len => (match ρ id with
    | some j => .os j sz off len
    | none => .junk)
  | .agg _ => .junk
  | .tup _ => .junk
  | .fn f [] [] => .fn f [] []
  | .fn _ _ _ => .junk
  | x => x
def renL (ρ : Nat → Option Nat) : List AV → List AV
  | [] => []
  | x :: xs => ren1 ρ x :: renL ρ xs
def renA (ρ : Nat → Option Nat) (x : AV) : AV :=
  match x with
  | .agg cs => .agg (renL ρ cs)
  | .fn f a b => .fn f (renL ρ a) (renL ρ b)
  | x => ren1 ρ x
def renAL (ρ : Nat → Option Nat) : List AV → List AV
  | [] => []
  | x :: xs => renA ρ x :: renAL ρ xs
def renT (ρ : Nat → Option Nat) (x : AV) : AV :=
  match x with
  | .tup vs => .tup (renAL ρ vs)
  | x => renA ρ x
def idxOf (i : Nat) : List Nat → Nat → Option Nat
  | [], _ => none
  | j :: l, k => match Nat.beq j i with
    | true => some k
    | false => idxOf i l (k + 1)
def objsOf (h : Hp) : List Nat → Option (List Obj)
  | [] => some []
  | i :: l => match get h i, objsOf h l with
    | some o, some os => some (o :: os)
    | _, _ => none
def backTo (ids : List Nat) (n : Nat) (j : Nat) : Option Nat :=
  match ids[j]? with
  | some id => some id
  | none => some (n + (j - ids.length))

def callQ (P : Program) (own : FuncId → Bool) (n : Nat) (h : Hp) (F : AV) (args : List AV) (K : AV → Nat → Hp → Prop) : Prop :=
  match F with
  | .fn (.func f) first cap => (match own f with
    | false => frzAL h (first ++ (args ++ cap)) fun all => (match all.all AV.noref with
      | true => frcL all fun all => ACall P f all [] fun r hs => (match hs with
        | [] => frcH (dels h (refsAL (first ++ (args ++ cap)))) fun h' => K r n h'
        | _ :: _ => False)
      | false => False)
    | true => (match objsOf h (dedup (refsAL (first ++ (args ++ cap)))) with
      | some objs => (match objs.all objPure with
        | true => frcL (renAL (fun i => idxOf i (dedup (refsAL (first ++ (args ++ cap)))) 0) (first ++ (args ++ cap))) fun all => ACall P f all objs fun r hs => (match hs.all objPure && Nat.ble objs.length hs.length with
          | true => frcH (mergeH (dedup (refsAL (first ++ (args ++ cap)))) hs n (dels h (dedup (refsAL (first ++ (args ++ cap)))))) fun h' => K (renT (backTo (dedup (refsAL (first ++ (args ++ cap)))) n) r) (n + (hs.length - objs.length)) h'
          | false => False)
        | false => False)
      | none => False))
  | _ => False

section
variable {P : Program} {E : Nat → Prop} {w : World} {ι : Inj} {n : Nat} {h : Hp}

theorem ren1_rel {ρ : Nat → Option Nat} {ι' : Inj} (hρ : ∀ id j p, ρ id = some j → ι id = some p → ι' j = some p) {x : AV} {v : Value} (hx : Rel E w ι x v) : Rel E w ι' (ren1 ρ x) v := by
  cases hx with
  | v y => exact .v _
  | sb b => exact .sb b
  | nils => exact .nils
  | lnil a c => exact .lnil a c
  | lst xs b off n cap sz hE hb hn hcap hz g hg h => exact .lst xs b off n cap sz hE hb hn hcap hz g hg h
  | fp cs b off hE hb g hg h => exact .fp cs b off hE hb g hg h
  | junk y => exact .junk _
  | agg cs c => exact .junk _
  | tup cs c => exact .junk _
  | fn f fs cs F C hF hC h1 h2 =>
    cases fs with
    | nil => cases cs with
      | nil => exact .fn f [] [] F C hF hC (fun i x y hx _ => by simp at hx) (fun i x y hx _ => by simp at hx)
      | cons c cs => exact .junk _
    | cons c cs => exact .junk _
  | op id off b base hι =>
    simp only [ren1]
    cases hj : ρ id with
    | none => exact .junk _
    | some j => exact .op j off b base (hρ _ _ _ hj hι)
  | ep id sz i off b base hι =>
    simp only [ren1]
    cases hj : ρ id with
    | none => exact .junk _
    | some j => exact .ep j sz i off b base (hρ _ _ _ hj hι)
  | osz id sz off a =>
    simp only [ren1]
    cases hj : ρ id with
    | none => exact .junk _
    | some j => exact .osz j sz off a
  | os id sz off len b base cap hι hc hcell =>
    simp only [ren1]
    cases hj : ρ id with
    | none => exact .junk _
    | some j => exact .os j sz off len b base cap (hρ _ _ _ hj hι) hc hcell
theorem renL_rel {ρ : Nat → Option Nat} {ι' : Inj} (hρ : ∀ id j p, ρ id = some j → ι id = some p → ι' j = some p) : ∀ {xs : List AV} {c : Array Value}, RL E w ι xs c → RL E w ι' (renL ρ xs) c
  | [], c, hx => by cases hx.nil; exact rl_nil
  | x :: xs, c, hx => by
    obtain ⟨v, vs, rfl, h1, h2⟩ := hx.head
    exact RL.cons (ren1_rel hρ h1) (renL_rel hρ h2)
theorem renA_rel {ρ : Nat → Option Nat} {ι' : Inj} (hρ : ∀ id j p, ρ id = some j → ι id = some p → ι' j = some p) {x : AV} {v : Value} (hx : Rel E w ι x v) : Rel E w ι' (renA ρ x) v := by
  cases x with
  | agg cs =>
    cases hx with
    | agg _ c hs h =>
      have := renL_rel hρ (⟨hs, h⟩ : RL E w ι cs c)
      exact .agg _ _ this.1 this.2
  | fn f a b =>
    cases hx with
    | fn _ _ _ F C hF hC h1 h2 =>
      have t1 := renL_rel hρ (⟨hF, h1⟩ : RL E w ι a F)
      have t2 := renL_rel hρ (⟨hC, h2⟩ : RL E w ι b C)
      exact .fn f _ _ _ _ t1.1 t2.1 t1.2 t2.2
  | _ => exact ren1_rel hρ hx
theorem renAL_rel {ρ : Nat → Option Nat} {ι' : Inj} (hρ : ∀ id j p, ρ id = some j → ι id = some p → ι' j = some p) : ∀ {xs : List AV} {c : Array Value}, RL E w ι xs c → RL E w ι' (renAL ρ xs) c
  | [], c, hx => by cases hx.nil; exact rl_nil
  | x :: xs, c, hx => by
    obtain ⟨v, vs, rfl, h1, h2⟩ := hx.head
    exact RL.cons (renA_rel hρ h1) (renAL_rel hρ h2)
theorem renT_rel {ρ : Nat → Option Nat} {ι' : Inj} (hρ : ∀ id j p, ρ id = some j → ι id = some p → ι' j = some p) {x : AV} {v : Value} (hx : Rel E w ι x v) : Rel E w ι' (renT ρ x) v := by
  cases x with
  | tup cs =>
    cases hx with
    | tup _ c hs h =>
      have := renAL_rel hρ (⟨hs, h⟩ : RL E w ι cs c)
      exact .tup _ _ this.1 this.2
  | _ => exact renA_rel hρ hx

theorem idxOf_spec : ∀ {l : List Nat} {i k q : Nat}, idxOf i l k = some q → k ≤ q ∧ l[q - k]? = some i
  | [], i, k, q, h => by simp [idxOf] at h
  | j :: l, i, k, q, h => by
    simp only [idxOf] at h
    split at h
    · rename_i hb
      have := Nat.eq_of_beq_eq_true hb
      subst this
      cases h
      exact ⟨Nat.le_refl _, by simp⟩
    · obtain ⟨h1, h2⟩ := idxOf_spec h
      refine ⟨by omega, ?_⟩
      rw [show q - k = (q - (k + 1)) + 1 by omega]; exact h2
theorem elemN_spec : ∀ {l : List Nat} {i : Nat}, elemN i l = true ↔ i ∈ l
  | [], i => by simp [elemN]
  | j :: l, i => by
    simp only [elemN]
    cases hb : Nat.beq j i with
    | true => have := Nat.eq_of_beq_eq_true hb; subst this; simp
    | false =>
      have hne : i ≠ j := fun e => by subst e; rw [beq_self] at hb; cases hb
      simp only [elemN_spec, List.mem_cons, hne, false_or]
theorem dedup_nodup : ∀ (l : List Nat), (dedup l).Nodup ∧ ∀ i, i ∈ dedup l → i ∈ l
  | [] => ⟨by simp [dedup], fun i h => h⟩
  | j :: l => by
    obtain ⟨h1, h2⟩ := dedup_nodup l
    simp only [dedup]
    cases hb : elemN j l with
    | true => exact ⟨h1, fun i hi => List.mem_cons_of_mem _ (h2 i hi)⟩
    | false =>
      refine ⟨List.nodup_cons.2 ⟨fun hm => ?_, h1⟩, fun i hi => ?_⟩
      · have := elemN_spec.2 (h2 j hm); rw [hb] at this; cases this
      · rcases List.mem_cons.1 hi with rfl | hi
        · simp
        · exact List.mem_cons_of_mem _ (h2 i hi)
theorem objsOf_spec : ∀ {l : List Nat} {os : List Obj}, objsOf h l = some os → l.length = os.length ∧ ∀ (j : Nat) id o, l[j]? = some id → os[j]? = some o → get h id = some o
  | [], os, hq => by simp only [objsOf, Option.some.injEq] at hq; subst hq; exact ⟨rfl, fun j id o h => by simp at h⟩
  | i :: l, os, hq => by
    simp only [objsOf] at hq
    split at hq
    · rename_i o os' ho hos
      cases hq
      obtain ⟨h1, h2⟩ := objsOf_spec hos
      refine ⟨by simp [h1], fun j id o' hj hj' => ?_⟩
      cases j with
      | zero => simp at hj hj'; subst hj; subst hj'; exact ho
      | succ j => exact h2 j id o' (by simpa using hj) (by simpa using hj')
    · cases hq

/-- A call, met by a contract. -/
def CGives (P : Program) (E : Nat → Prop) (w : World) (ι : Inj) (h : Hp) (s : Sem Next) (K : AV → Nat → Hp → Prop) : Prop :=
  ∃ f vals, s.run P w = .ok (.enter f vals) w ∧ Calls P f vals w fun e w' => ∃ v x n' h' ι' E', e = .returned v ∧ K x n' h' ∧ Rel E' w' ι' x v ∧ Rep ι' E' w' n' h' ∧ Ext ι h E w ι' h' E' w'

theorem RL.append {xs ys : List AV} {a b : Array Value} (h1 : RL E w ι xs a) (h2 : RL E w ι ys b) : RL E w ι (xs ++ ys) (a ++ b) := by
  refine ⟨by simp [h1.1, h2.1], fun i x y hx hy => ?_⟩
  by_cases hi : i < xs.length
  · rw [List.getElem?_append_left hi] at hx
    rw [Array.getElem?_append_left (by rw [← h1.1]; exact hi)] at hy
    exact h1.2 i x y hx hy
  · rw [List.getElem?_append_right (by omega)] at hx
    rw [Array.getElem?_append_right (by rw [← h1.1]; omega), ← h1.1] at hy
    exact h2.2 _ x y hx hy

theorem callQ_sound (r : Rep ι E w n h) {own : FuncId → Bool} {ev : Operand → AV} {ρ : Operand → Value} (hev : ∀ x, Rel E w ι (ev x) (ρ x)) {o : Oper} {c : Call} {fo : Operand} (ho : o.op = .call c) (hc : c.callee = .value fo) {K : AV → Nat → Hp → Prop}
    (hq : callQ P own n h (ev fo) (c.args.toList.map ev) K) : CGives P E w ι h (execOp ρ o) K := by
  unfold callQ at hq
  simp only [frcH_eq, frcL_eq] at hq
  have hF := hev fo
  split at hq
  case h_2 => exact hq.elim
  rename_i f first cap he
  rw [he] at hF
  generalize hfv : ρ fo = fv at hF
  cases hF with
  | fn _ _ _ F C h1 h2 h3 h4 =>
    have hargs := rl_map hev c.args
    have hall : RL E w ι (first ++ (c.args.toList.map ev ++ cap)) (F ++ (c.args.map ρ ++ C)) := RL.append ⟨h1, h3⟩ (RL.append hargs ⟨h2, h4⟩)
    have hrun : okFn P f = true → (execOp ρ o).run P w = .ok (.enter f (F ++ (c.args.map ρ ++ C))) w := by
      intro hok
      unfold okFn at hok
      split at hok
      · rename_i fn hfn
        simp only [Bool.and_eq_true, Bool.not_eq_true'] at hok
        obtain ⟨hb, hnm⟩ := hok
        have hb' : fn.body.isNone = false := by cases hfb : fn.body <;> simp_all
        simp only [execOp, ho, resolve, hc, hfv, Deferred.ofValue, Sem.run_bind, Sem.run_pure, Result.andThen_ok, invoke, callFunc, run_program, hfn, hnm, hb', Bool.false_eq_true, if_false, Array.append_assoc]
      · cases hok
    split at hq
    · obtain ⟨all, a1, a2, a3⟩ := frzAL_sound r (S := fun id => id ∈ refsAL (first ++ (c.args.toList.map ev ++ cap))) hall (fun _ h => h) hq
      split at a2
      case h_2 => exact a2.elim
      rename_i hnr
      obtain ⟨hok, hcall⟩ := a2.elim
      obtain ⟨r1, x1⟩ := release r (fun id => id ∈ refsAL (first ++ (c.args.toList.map ev ++ cap))) (Sub.dels (refsAL (first ++ (c.args.toList.map ev ++ cap)))) (fun id o hg hm => by rw [get_dels, if_pos hm] at hg; cases hg)
      have r0 : Rep noInj _ w ([] : List Obj).length (enumH 0 []) := ⟨fun _ _ => rfl, fun id o hg => by simp [enumH, get] at hg, fun id id' o o' b base base' hg => by simp [enumH, get] at hg, r1.bound⟩
      refine ⟨f, _, hrun hok, (hcall noInj _ w _ r0 (a1.noref hnr)).mono ?_⟩
      rintro e w' ⟨v, rv, hs', ι', E', rfl, hk, r', hr, x'⟩
      cases hs' with
      | cons _ _ => exact hk.elim
      | nil =>
        have hι' : ι' = noInj := funext fun id => r'.fresh id (Nat.zero_le _)
        subst hι'
        have hk2 : Keeps _ w E' w' := x'.keeps r0
        have hno : ∀ b, ¬ Own noInj (enumH 0 []) b := fun b ⟨id, o, base, hg, _⟩ => by simp [enumH, get] at hg
        have rr : Rep ι E' w' n (dels h (refsAL (first ++ (c.args.toList.map ev ++ cap)))) := by
          refine ⟨r1.fresh, fun id o hg => (r1.obj id o hg).keep hk2 (fun _ _ h => h) (fun b base hb => ?_) (fun b base hb => ?_), r1.sep, r'.bound⟩
          · exact (x'.old b (own_ne r1 hg hb) (hno b)).2.2 (r1.own_E ⟨id, o, base, hg, hb⟩)
          · exact (x'.old b (own_ne r1 hg hb) (hno b)).1
        refine ⟨v, rv, n, _, ι, E', rfl, hk, hr.up, rr, x1.trans ⟨x'.os, x'.tape, x'.output, x'.size, fun _ _ h => h, fun b hb _ => x'.old b hb (hno b), fun _ _ h => h, x'.some, x'.mark, x'.drawn⟩⟩
    · split at hq
      case h_2 => exact hq.elim
      rename_i objs hobjs
      split at hq
      case h_2 => exact hq.elim
      rename_i hpo
      obtain ⟨hok, hcall⟩ := hq.elim
      obtain ⟨hl, hget⟩ := objsOf_spec hobjs
      have hnd := (dedup_nodup (refsAL (first ++ (c.args.toList.map ev ++ cap)))).1
      rw [List.all_eq_true] at hpo
      have r0 := callee_rep r hnd hl hget hpo
      have hren : RL E w (calleeInj ι (dedup (refsAL (first ++ (c.args.toList.map ev ++ cap))))) (renAL (fun i => idxOf i (dedup (refsAL (first ++ (c.args.toList.map ev ++ cap)))) 0) (first ++ (c.args.toList.map ev ++ cap))) (F ++ (c.args.map ρ ++ C)) := by
        refine renAL_rel (fun id j p hj hp => ?_) hall
        obtain ⟨_, h5⟩ := idxOf_spec hj
        simp only [Nat.sub_zero] at h5
        simp [calleeInj, h5, hp]
      refine ⟨f, _, hrun hok, (hcall _ E w _ r0 hren).mono ?_⟩
      rintro e w' ⟨v, rv, hs', ι', E', rfl, hk, r', hr, x'⟩
      split at hk
      case h_2 => exact hk.elim
      rename_i hb
      simp only [Bool.and_eq_true, List.all_eq_true] at hb
      obtain ⟨hps, hble⟩ := hb
      have hble := Nat.le_of_ble_eq_true hble
      obtain ⟨rr, xx⟩ := merge_rep r hnd hl hget (by omega) hps r' x'
      rw [← hl] at hk
      refine ⟨v, _, _, _, _, E', rfl, hk, renT_rel (fun id j p hj hp => ?_) hr, rr, xx⟩
      unfold backTo at hj
      have hlt : ∀ {id}, get h id ≠ none → id < n := by
        intro id hg
        rcases Nat.lt_or_ge id n with h' | h'
        · exact h'
        · cases hgo : get h id with
          | none => exact absurd hgo hg
          | some ob =>
            have h6 := r.obj id ob hgo
            have h7 := r.fresh id h'
            cases ob with
            | box cs => obtain ⟨b, base, h8, _⟩ := h6; rw [h7] at h8; cases h8
            | arr sz xs => rcases h6 with ⟨h8, _⟩ | ⟨b, base, h8, _⟩ <;> (rw [h7] at h8; cases h8)
      cases hi : (dedup (refsAL (first ++ (c.args.toList.map ev ++ cap))))[id]? with
      | some q =>
        simp only [hi, Option.some.injEq] at hj
        subst hj
        have hj' : id < objs.length := by
          rw [← hl]
          rcases Nat.lt_or_ge id (dedup (refsAL (first ++ (c.args.toList.map ev ++ cap)))).length with h' | h'
          · exact h'
          · simp [h'] at hi
        have hg := hget id q _ hi (List.getElem?_eq_getElem hj')
        have hq' := hlt (id := q) (by rw [hg]; simp)
        simp only [hq', if_true]
        have h3 : calleeInj ι (dedup (refsAL (first ++ (c.args.toList.map ev ++ cap)))) id = ι q := by simp [calleeInj, hi]
        cases hιq : ι q with
        | none =>
          have h6 := r.obj q _ hg
          generalize objs[id] = ob at h6
          cases ob with
          | box cs => obtain ⟨b, base, h8, _⟩ := h6; rw [hιq] at h8; cases h8
          | arr sz xs => rcases h6 with ⟨h8, _⟩ | ⟨b, base, h8, _⟩ <;> (rw [hιq] at h8; cases h8)
        | some p' =>
          have := x'.inj id p' (by rw [h3, hιq])
          rw [this] at hp; exact hp
      | none =>
        simp only [hi, Option.some.injEq] at hj
        subst hj
        have hge : (dedup (refsAL (first ++ (c.args.toList.map ev ++ cap)))).length ≤ id := by
          rcases Nat.lt_or_ge id (dedup (refsAL (first ++ (c.args.toList.map ev ++ cap)))).length with h' | h'
          · simp [h'] at hi
          · exact h'
        simp only [show ¬ n + (id - (dedup (refsAL (first ++ (c.args.toList.map ev ++ cap)))).length) < n by omega, if_false]
        rw [← hp]; congr 1; omega

end
end Go.Vm
