/- An abstract machine over the loaded code, part D: what becomes of the abstract heap when a block is made or written. -/
import Derived.Test.YtkpnlmainmlogaaVmC
import Derived.RowKit3
import Derived.Laws.IdiomCopy
set_option linter.unusedVariables false
set_option linter.unusedSimpArgs false
namespace Go.Vm

/-- one cell, and what is in it is known -/
def AV.one : AV → Bool
  | .v (.agg _) => false
  | .v (.tuple _) => false
  | .agg _ => false
  | .tup _ => false
  | .junk => false
  | _ => true
/-- one cell that holds no own address -/
def AV.pure1 : AV → Bool
  | .v (.agg _) => false
  | .v (.tuple _) => false
  | .v _ => true
  | .sb _ => true
  | .nils => true
  | .lst _ => true
  | .fp _ => true
  | .fn _ [] [] => true
  | _ => false
def AV.pure : AV → Bool
  | .agg cs => cs.all AV.pure1
  | x => x.pure1

section
variable {P : Program} {E : Nat → Prop} {w : World} {ι : Inj} {n : Nat} {h : Hp}

theorem AV.one_of_pure1 {x : AV} (h : x.pure1 = true) : x.one = true := by
  cases x with
  | v y => cases y <;> first | rfl | simp [AV.pure1] at h
  | _ => first | rfl | simp [AV.pure1] at h
theorem rel_one {x : AV} {y : Value} (h : Rel E w ι x y) (ho : x.one = true) : y.oneCell' = true := by
  cases h with
  | v y => cases y <;> first | rfl | simp [AV.one] at ho
  | agg => simp [AV.one] at ho
  | tup => simp [AV.one] at ho
  | junk => simp [AV.one] at ho
  | _ => rfl
theorem Rel.pure1 {x : AV} {y : Value} {ι' : Inj} (h : Rel E w ι x y) (hp : x.pure1 = true) : Rel E w ι' x y := by
  cases h with
  | v y => exact .v y
  | sb b => exact .sb b
  | nils => exact .nils
  | lnil a c => exact .lnil a c
  | lst xs b off n cap sz hE hb hn hcap hz g hg h => exact .lst xs b off n cap sz hE hb hn hcap hz g hg h
  | fp cs b off hE hb g hg h => exact .fp cs b off hE hb g hg h
  | fn f fs cs F C hF hC h1 h2 =>
    cases fs <;> cases cs <;> simp [AV.pure1] at hp
    exact .fn f [] [] F C hF hC (fun i x y hx _ => by simp at hx) (fun i x y hx _ => by simp at hx)
  | agg => simp [AV.pure1] at hp
  | op => simp [AV.pure1] at hp
  | ep => simp [AV.pure1] at hp
  | osz => simp [AV.pure1] at hp
  | os => simp [AV.pure1] at hp
  | tup => simp [AV.pure1] at hp
  | junk => simp [AV.pure1] at hp
theorem AV.pure_cells {x : AV} (h : x.pure = true) : ∀ c, c ∈ x.cells → c.pure1 = true := by
  intro c hc
  cases x with
  | agg cs => simp only [AV.pure, List.all_eq_true] at h; exact h c hc
  | _ => simp only [AV.cells, List.mem_singleton] at hc; subst hc; exact h
theorem AV.solid_of_pure {x : AV} (h : x.pure = true) : x.solid = true := by
  cases x with
  | v y => cases y <;> first | rfl | simp [AV.pure, AV.pure1] at h
  | junk => simp [AV.pure, AV.pure1] at h
  | _ => rfl

/-- a heap that has no more than another -/
def Sub (h0 h : Hp) : Prop := ∀ id o, get h0 id = some o → get h id = some o
theorem Sub.refl : Sub h h := fun _ _ h => h

def del : Hp → Nat → Hp
  | [], _ => []
  | (k, x) :: r, i => match Nat.beq k i with
    | true => del r i
    | false => (k, x) :: del r i
theorem beq_self (k : Nat) : Nat.beq k k = true := Nat.beq_refl k
theorem get_del (h : Hp) (i j : Nat) : get (del h i) j = if i = j then none else get h j := by
  induction h with
  | nil => simp [del, get]
  | cons p r ih =>
    obtain ⟨k, x⟩ := p
    simp only [del]
    cases hb : Nat.beq k i with
    | true =>
      have := Nat.eq_of_beq_eq_true hb
      subst this
      simp only [ih, get_cons]
      split <;> simp_all
    | false =>
      have hne : k ≠ i := fun e => by subst e; rw [beq_self] at hb; cases hb
      simp only [get_cons, ih]
      by_cases hkj : k = j
      · subst hkj; simp [Ne.symm hne]
      · simp [hkj]
theorem Sub.del (i : Nat) : Sub (del h i) h := fun id o hg => by
  rw [get_del] at hg
  split at hg
  · cases hg
  · exact hg
theorem Sub.trans {h1 h2 h3 : Hp} (a : Sub h1 h2) (b : Sub h2 h3) : Sub h1 h3 := fun id o hg => b _ _ (a _ _ hg)

theorem Rep.sub {h0 : Hp} (r : Rep ι E w n h) (hs : Sub h0 h) : Rep ι E w n h0 :=
  ⟨r.fresh, fun id o hg => r.obj id o (hs _ _ hg), fun id id' o o' b base base' h1 h2 => r.sep id id' o o' b base base' (hs _ _ h1) (hs _ _ h2), r.bound⟩
theorem Ext.sub {h0 : Hp} (hs : Sub h0 h) : Ext ι h E w ι h0 E w :=
  ⟨rfl, rfl, rfl, Nat.le_refl _, fun _ _ h => h, fun _ _ _ => ⟨rfl, Iff.rfl⟩, fun b _ ⟨id, o, base, h1, h2⟩ => ⟨id, o, base, hs _ _ h1, h2⟩, fun _ h => h, fun _ _ => rfl, Nat.le_refl _⟩

theorem Rep.get_n (r : Rep ι E w n h) : get h n = none := by
  cases hg : get h n with
  | none => rfl
  | some o =>
    have h1 := r.obj n o hg
    have h2 := r.fresh n (Nat.le_refl _)
    cases o with
    | box cs => obtain ⟨b, base, h3, _⟩ := h1; rw [h2] at h3; cases h3
    | arr sz xs =>
      rcases h1 with ⟨h3, _⟩ | ⟨b, base, h3, _⟩
      · rw [h2] at h3; cases h3
      · rw [h2] at h3; cases h3

/-- the injection with one more -/
def Inj.set (ι : Inj) (n : Nat) (p : Option (Nat × Nat)) : Inj := fun i => if i = n then some p else ι i
theorem Inj.set_same (p : Option (Nat × Nat)) : (ι.set n p) n = some p := by simp [Inj.set]
theorem Inj.set_ext (r : Rep ι E w n h) (p : Option (Nat × Nat)) : ∀ id q, ι id = some q → (ι.set n p) id = some q := by
  intro id q hq
  unfold Inj.set
  split
  · rename_i e; subst e; rw [r.fresh _ (Nat.le_refl _)] at hq; cases hq
  · exact hq

theorem ORel.keep {E' : Nat → Prop} {w' : World} {ι' : Inj} (hk : Keeps E w E' w') (hι : ∀ id q, ι id = some q → ι' id = some q) {id : Nat} {o : Obj} (ho : ORel E w ι id o)
    (hE : ∀ b base, ι id = some (some (b, base)) → E' b) (hc : ∀ b base, ι id = some (some (b, base)) → w'.heap[b]? = w.heap[b]?) : ORel E' w' ι' id o := by
  cases o with
  | box cs =>
    obtain ⟨b, base, h1, h2, h3, h4⟩ := ho
    refine ⟨b, base, hι _ _ h1, hE _ _ h1, Nat.lt_of_lt_of_le h3 hk.size, fun i c hic => ?_⟩
    obtain ⟨u, h5, h6, h7⟩ := h4 i c hic
    exact ⟨u, by rw [cell_of_heap (a := ⟨b, _, none⟩) (hc _ _ h1)]; exact h5, by rw [hk.mark _ (by simp [h5])]; exact h6, h7.keep hk hι⟩
  | arr sz xs =>
    rcases ho with ⟨h1, h2⟩ | ⟨b, base, h1, h2, h3, h4, h5⟩
    · exact .inl ⟨hι _ _ h1, h2⟩
    · refine .inr ⟨b, base, hι _ _ h1, hE _ _ h1, Nat.lt_of_lt_of_le h3 hk.size, h4, fun i x j c hx hj => ?_⟩
      obtain ⟨u, h6, h7, h8⟩ := h5 i x j c hx hj
      exact ⟨u, by rw [cell_of_heap (a := ⟨b, _, none⟩) (hc _ _ h1)]; exact h6, by rw [hk.mark _ (by simp [h6])]; exact h7, h8.keep hk (fun _ _ h => h)⟩

theorem own_ne (r : Rep ι E w n h) {id : Nat} {o : Obj} {b base : Nat} (hg : get h id = some o) (hι : ι id = some (some (b, base))) : b < w.heap.size := r.bound b (r.own_E ⟨id, o, base, hg, hι⟩)

/-! ### a new block -/
def Enew (E : Nat → Prop) (w : World) : Nat → Prop := fun b => E b ∨ b = w.heap.size
theorem keeps_alloc (o : Go.Obj) : Keeps E w (Enew E w) (w.alloc o) where
  size := by simp
  froz := fun b hb hE => ⟨RowKit.Below.heap_alloc w o b hb, fun h => by
    rcases h with h | h
    · exact hE h
    · omega⟩
  some := fun a ha => by
    obtain ⟨u, hu⟩ := Option.isSome_iff_exists.1 ha
    rw [World.cell?_alloc_lt w o a (World.block_lt_of_cell? w a hu)]; exact ha
  mark := fun a ha => by
    obtain ⟨u, hu⟩ := Option.isSome_iff_exists.1 ha
    exact World.frozen?_alloc_old w o a (Nat.ne_of_lt (World.block_lt_of_cell? w a hu))

theorem step_new (r : Rep ι E w n h) (ob : Obj) (c : Array Value) (t : TypeId) (ho : ORel (Enew E w) (w.alloc (.cells c t)) (ι.set n (some (w.heap.size, 0))) n ob) :
    Rep (ι.set n (some (w.heap.size, 0))) (Enew E w) (w.alloc (.cells c t)) (n + 1) ((n, ob) :: h) ∧
    Ext ι h E w (ι.set n (some (w.heap.size, 0))) ((n, ob) :: h) (Enew E w) (w.alloc (.cells c t)) := by
  have hk : Keeps E w (Enew E w) (w.alloc (.cells c t)) := keeps_alloc _
  have hx := Inj.set_ext r (some (w.heap.size, 0))
  have hne : ∀ {id o}, get h id = some o → id ≠ n := fun hg e => by subst e; rw [r.get_n] at hg; cases hg
  have hset : ∀ {id}, id ≠ n → (ι.set n (some (w.heap.size, 0))) id = ι id := fun hi => by simp [Inj.set, hi]
  refine ⟨⟨fun id hid => ?_, fun id o hg => ?_, fun id id' o o' b base base' h1 h2 h3 h4 => ?_, fun b hb => ?_⟩, ⟨rfl, rfl, rfl, by simp, hx, fun b hb hn => ?_, fun b hb ho => ?_, hk.some, fun a _ => RowKit.frozen?_alloc_cells w c t a, Nat.le_refl _⟩⟩
  · rw [hset (by omega)]; exact r.fresh id (by omega)
  · rw [get_cons] at hg
    split at hg
    · rename_i e; subst e; cases hg; exact ho
    · exact (r.obj id o hg).keep hk hx (fun b base hb => .inl (r.own_E ⟨id, o, base, hg, hb⟩)) (fun b base hb => RowKit.Below.heap_alloc w _ b (own_ne r hg hb))
  · rw [get_cons] at h1 h2
    split at h1 <;> split at h2
    · rename_i e1 e2; omega
    · rename_i e1 e2
      subst e1
      rw [Inj.set_same] at h3; cases h3
      rw [hset (hne h2)] at h4
      have := own_ne r h2 h4
      omega
    · rename_i e1 e2
      subst e2
      rw [Inj.set_same] at h4; cases h4
      rw [hset (hne h1)] at h3
      have := own_ne r h1 h3
      omega
    · rw [hset (hne h1)] at h3; rw [hset (hne h2)] at h4
      exact r.sep _ _ _ _ _ _ _ h1 h2 h3 h4
  · rcases hb with hb | hb
    · have := r.bound b hb; simp; omega
    · simp; omega
  · exact ⟨RowKit.Below.heap_alloc w _ b hb, ⟨fun h => by rcases h with h | h; exact h; omega, .inl⟩⟩
  · obtain ⟨id, o, base, hg, hι⟩ := ho
    rw [get_cons] at hg
    split at hg
    · rename_i e; subst e
      rw [Inj.set_same] at hι; cases hι; omega
    · rw [hset (hne hg)] at hι
      exact ⟨id, o, base, hg, hι⟩

/-! ### a block that is written -/
structure Writes (w : World) (b : Nat) (w1 : World) : Prop where
  os : w1.os = w.os
  tape : w1.tape = w.tape
  output : w1.output = w.output
  size : w1.heap.size = w.heap.size
  other : ∀ k, k ≠ b → w1.heap[k]? = w.heap[k]?
  some : ∀ a, (w.cell? a).isSome = true → (w1.cell? a).isSome = true
  mark : ∀ a, w1.frozen? a = w.frozen? a
  drawn : w1.drawn = w.drawn

theorem Writes.keeps {b : Nat} {w1 : World} (hw : Writes w b w1) (hE : E b) : Keeps E w E w1 where
  size := Nat.le_of_eq hw.size.symm
  froz := fun k hk hn => ⟨hw.other k (fun e => hn (e ▸ hE)), hn⟩
  some := hw.some
  mark := fun a _ => hw.mark a

theorem writes_setCells (w : World) (b : Nat) : ∀ (vs : List Value) (o : Nat), Writes w b (w.setCells b o vs)
  | [], _ => ⟨rfl, rfl, rfl, rfl, fun _ _ => rfl, fun _ h => h, fun _ => rfl, rfl⟩
  | v :: vs, o => by
    have ih := writes_setCells (w.setCell ⟨b, o, none⟩ v) b vs (o + 1)
    exact ⟨ih.os, ih.tape, ih.output, by rw [World.setCells, ih.size]; simp, fun k hk => by rw [World.setCells, ih.other k hk]; exact RowKit.Below.heap_setCell w _ v k hk,
      fun a ha => ih.some a (by
        by_cases e : (⟨b, o, none⟩ : Addr) = a
        · subst e
          obtain ⟨u, hu⟩ := Option.isSome_iff_exists.1 ha
          rw [World.cell?_setCell_same w _ v hu]; rfl
        · rw [World.cell?_setCell_other w _ _ v e]; exact ha), fun a => by rw [World.setCells, ih.mark a]; simp, ih.drawn⟩

/-- block b, owned by id, is written; what it holds now belongs to m (id itself, or a new name), at base1 -/
theorem step_put (r : Rep ι E w n h) {h0 : Hp} (hs : Sub h0 h) {id m b base base1 n1 : Nat} {o ob : Obj} {w1 : World} {ι1 : Inj} (hg : get h id = some o) (hι : ι id = some (some (b, base))) (h0i : get h0 id = none)
    (hw : Writes w b w1) (hx : ∀ i q, ι i = some q → ι1 i = some q) (h1 : ι1 m = some (some (b, base1))) (hm : ∀ i, i ≠ m → ι1 i = ι i) (hn : n ≤ n1) (hfr : ∀ i, n1 ≤ i → ι1 i = none) (ho : ORel E w1 ι1 m ob) (h0m : get h0 m = none) :
    Rep ι1 E w1 n1 ((m, ob) :: h0) ∧ Ext ι h E w ι1 ((m, ob) :: h0) E w1 := by
  have hEb : E b := r.own_E ⟨id, o, base, hg, hι⟩
  have hk := hw.keeps (E := E) hEb
  have hne : ∀ {i x}, get h0 i = some x → i ≠ m := fun hi e => by subst e; rw [h0m] at hi; cases hi
  have hnb : ∀ {i x b' base'}, get h0 i = some x → ι i = some (some (b', base')) → b' ≠ b := fun {i x b' base'} hi hb e => by
    subst e
    have := r.sep i id x o b' base' base (hs _ _ hi) hg hb hι
    subst this
    rw [h0i] at hi; cases hi
  refine ⟨⟨hfr, fun i x hi => ?_, fun i i' x x' b' base' base'' e1 e2 e3 e4 => ?_, fun b' hb' => by rw [hw.size]; exact r.bound b' hb'⟩, ⟨hw.os, hw.tape, hw.output, Nat.le_of_eq hw.size.symm, hx, fun b' hb' hno => ?_, fun b' hb' hown => ?_, hw.some, fun a _ => hw.mark a, Nat.le_of_eq hw.drawn.symm⟩⟩
  · rw [get_cons] at hi
    split at hi
    · rename_i e; subst e; cases hi; exact ho
    · exact (r.obj i x (hs _ _ hi)).keep hk hx (fun b' base' hb => r.own_E ⟨i, x, base', hs _ _ hi, hb⟩) (fun b' base' hb => hw.other b' (hnb hi hb))
  · rw [get_cons] at e1 e2
    split at e1 <;> split at e2
    · rename_i a1 a2; omega
    · rename_i a1 a2
      subst a1
      rw [h1] at e3; cases e3
      rw [hm _ (hne e2)] at e4
      exact absurd rfl (hnb e2 e4)
    · rename_i a1 a2
      subst a2
      rw [h1] at e4; cases e4
      rw [hm _ (hne e1)] at e3
      exact absurd rfl (hnb e1 e3)
    · rw [hm _ (hne e1)] at e3; rw [hm _ (hne e2)] at e4
      exact r.sep _ _ _ _ _ _ _ (hs _ _ e1) (hs _ _ e2) e3 e4
  · exact ⟨hw.other b' (fun e => hno (e ▸ ⟨id, o, base, hg, hι⟩)), Iff.rfl⟩
  · obtain ⟨i, x, base', hi, hb⟩ := hown
    rw [get_cons] at hi
    split at hi
    · rename_i e; subst e
      rw [h1] at hb; cases hb
      exact ⟨id, o, base, hg, hι⟩
    · rw [hm _ (hne hi)] at hb
      exact ⟨i, x, base', hs _ _ hi, hb⟩

end
end Go.Vm
