/- An abstract machine over the loaded code, part A: abstract values, their relation to values in a world, abstract heaps, extension of worlds. -/
import Derived.Orders
import Derived.Laws.Sem
import Derived.Laws.World
import Derived.Laws.Cells
import Derived.Laws.Tables
import Derived.Below
set_option linter.unusedVariables false
set_option linter.unusedSimpArgs false
namespace Go.Vm

/-- Abstract values. `v`: an immediate value. `sb`: a truth value that is a term. `agg`: cells. `nils`: the nil slice. `lst`: a slice that is never written again, by its elements. `fp`: a pointer to cells that are never written again. `op`: a pointer into an own box. `ep id sz i off`: a pointer to cell off of element i of an own array with elements of sz cells. `os id sz off len`: a slice of an own array. `fn`: a function value. `tup`: several results. `junk`: nothing is known. -/
inductive AV where
  | v (x : Value)
  | sb (b : Bool)
  | agg (cs : List AV)
  | nils
  | lst (xs : List AV)
  | fp (cs : List AV)
  | op (id off : Nat)
  | ep (id sz i off : Nat)
  | os (id sz off len : Nat)
  | fn (f : Fn) (first cap : List AV)
  | tup (vs : List AV)
  | junk
  deriving Inhabited

def AV.cells : AV → List AV
  | .agg cs => cs
  | x => [x]

def ofValue : Value → AV
  | .agg cs => .agg (cs.toList.map fun x => match x with | .slice none 0 0 => .nils | y => .v y)
  | .slice none 0 0 => .nils
  | .func f fs cs => if fs.isEmpty && cs.isEmpty then .fn f [] [] else .v (.func f fs cs)
  | x => .v x

abbrev Inj := Nat → Option (Option (Nat × Nat))
def noInj : Inj := fun _ => none

/-- The relation between abstract values and values in a world. E: the blocks that are owned by someone (no frozen value lies in them). -/
inductive Rel (E : Nat → Prop) (w : World) : Inj → AV → Value → Prop
  | v {ι : Inj} (x : Value) : Rel E w ι (.v x) x
  | sb {ι : Inj} (b : Bool) : Rel E w ι (.sb b) (.bool b)
  | agg {ι : Inj} (cs : List AV) (c : Array Value) (hs : cs.length = c.size) (h : ∀ (i : Nat) x y, cs[i]? = some x → c[i]? = some y → Rel E w ι x y) : Rel E w ι (.agg cs) (.agg c)
  | nils {ι : Inj} : Rel E w ι .nils (.slice none 0 0)
  | lnil {ι : Inj} (a : Option Addr) (c : Nat) : Rel E w ι (.lst []) (.slice a 0 c)
  | lst {ι : Inj} (xs : List AV) (b off n cap sz : Nat) (hE : ¬ E b) (hb : b < w.heap.size) (hn : n = xs.length) (hcap : n ≤ cap)
      (hz : ∀ (i : Nat) x, xs[i]? = some x → x.cells.length = sz) (g : Nat → Nat → Value)
      (hg : ∀ (i : Nat) x (j : Nat) y, xs[i]? = some x → x.cells[j]? = some y → w.cell? ⟨b, off + i * sz + j, none⟩ = some (g i j))
      (h : ∀ (i : Nat) x (j : Nat) y, xs[i]? = some x → x.cells[j]? = some y → Rel E w noInj y (g i j)) :
      Rel E w ι (.lst xs) (.slice (some ⟨b, off, none⟩) n cap)
  | fp {ι : Inj} (cs : List AV) (b off : Nat) (hE : ¬ E b) (hb : b < w.heap.size) (g : Nat → Value)
      (hg : ∀ (j : Nat) y, cs[j]? = some y → w.cell? ⟨b, off + j, none⟩ = some (g j)) (h : ∀ (j : Nat) y, cs[j]? = some y → Rel E w noInj y (g j)) : Rel E w ι (.fp cs) (.pointer (some ⟨b, off, none⟩))
  | op {ι : Inj} (id off b base : Nat) (hι : ι id = some (some (b, base))) : Rel E w ι (.op id off) (.pointer (some ⟨b, base + off, none⟩))
  | ep {ι : Inj} (id sz i off b base : Nat) (hι : ι id = some (some (b, base))) : Rel E w ι (.ep id sz i off) (.pointer (some ⟨b, base + i * sz + off, none⟩))
  | osz {ι : Inj} (id sz off : Nat) (a : Option Addr) : Rel E w ι (.os id sz off 0) (.slice a 0 0)
  | os {ι : Inj} (id sz off len b base cap : Nat) (hι : ι id = some (some (b, base))) (hc : len ≤ cap)
      (h : ∀ j, j < cap * sz → (w.cell? ⟨b, base + off * sz + j, none⟩).isSome = true ∧ w.frozen? ⟨b, base + off * sz + j, none⟩ = false) :
      Rel E w ι (.os id sz off len) (.slice (some ⟨b, base + off * sz, none⟩) len cap)
  | fn {ι : Inj} (f : Fn) (fs cs : List AV) (F C : Array Value) (hF : fs.length = F.size) (hC : cs.length = C.size)
      (h1 : ∀ (i : Nat) x y, fs[i]? = some x → F[i]? = some y → Rel E w ι x y) (h2 : ∀ (i : Nat) x y, cs[i]? = some x → C[i]? = some y → Rel E w ι x y) :
      Rel E w ι (.fn f fs cs) (.func f F C)
  | tup {ι : Inj} (cs : List AV) (c : Array Value) (hs : cs.length = c.size) (h : ∀ (i : Nat) x y, cs[i]? = some x → c[i]? = some y → Rel E w ι x y) : Rel E w ι (.tup cs) (.tuple c)
  | junk {ι : Inj} (x : Value) : Rel E w ι .junk x

/-- What is asked so that a value reads on: nothing frozen has been touched, no cell has gone. -/
structure Keeps (E : Nat → Prop) (w : World) (E' : Nat → Prop) (w' : World) : Prop where
  size : w.heap.size ≤ w'.heap.size
  froz : ∀ b, b < w.heap.size → ¬ E b → w'.heap[b]? = w.heap[b]? ∧ ¬ E' b
  some : ∀ a, (w.cell? a).isSome = true → (w'.cell? a).isSome = true
  mark : ∀ a, (w.cell? a).isSome = true → w'.frozen? a = w.frozen? a

theorem cell_of_heap {w w' : World} {a : Addr} (h : w'.heap[a.block]? = w.heap[a.block]?) : w'.cell? a = w.cell? a := by
  unfold World.cell?; rw [h]

theorem Rel.keep {E E' : Nat → Prop} {w w' : World} (hk : Keeps E w E' w') {ι : Inj} {x : AV} {y : Value} (h : Rel E w ι x y) :
    ∀ {ι' : Inj}, (∀ id p, ι id = some p → ι' id = some p) → Rel E' w' ι' x y := by
  induction h with
  | v x => intro ι' _; exact .v x
  | sb b => intro ι' _; exact .sb b
  | agg cs c hs h ih => intro ι' hι; exact .agg cs c hs (fun i x y hx hy => ih i x y hx hy hι)
  | nils => intro ι' _; exact .nils
  | lnil a c => intro ι' _; exact .lnil a c
  | lst xs b off n cap sz hE hb hn hcap hz g hg h ih =>
    intro ι' _
    obtain ⟨h1, h2⟩ := hk.froz b hb hE
    exact .lst xs b off n cap sz h2 (Nat.lt_of_lt_of_le hb hk.size) hn hcap hz g
      (fun i x j y hx hy => by rw [cell_of_heap (a := ⟨b, _, none⟩) h1]; exact hg i x j y hx hy) (fun i x j y hx hy => ih i x j y hx hy (fun _ _ h => h))
  | fp cs b off hE hb g hg h ih =>
    intro ι' _
    obtain ⟨h1, h2⟩ := hk.froz b hb hE
    exact .fp cs b off h2 (Nat.lt_of_lt_of_le hb hk.size) g (fun j y hy => by rw [cell_of_heap (a := ⟨b, _, none⟩) h1]; exact hg j y hy) (fun j y hy => ih j y hy (fun _ _ h => h))
  | op id off b base hι => intro ι' hm; exact .op id off b base (hm _ _ hι)
  | ep id sz i off b base hι => intro ι' hm; exact .ep id sz i off b base (hm _ _ hι)
  | osz id sz off a => intro ι' hm; exact .osz id sz off a
  | os id sz off len b base cap hι hc h =>
    intro ι' hm
    exact .os id sz off len b base cap (hm _ _ hι) hc (fun j hj => ⟨hk.some _ (h j hj).1, by rw [hk.mark _ (h j hj).1]; exact (h j hj).2⟩)
  | fn f fs cs F C hF hC h1 h2 ih1 ih2 =>
    intro ι' hm
    exact .fn f fs cs F C hF hC (fun i x y hx hy => ih1 i x y hx hy hm) (fun i x y hx hy => ih2 i x y hx hy hm)
  | tup cs c hs h ih => intro ι' hι; exact .tup cs c hs (fun i x y hx hy => ih i x y hx hy hι)
  | junk x => intro ι' _; exact .junk x

theorem rel_ofValue {E : Nat → Prop} {w : World} {ι : Inj} (x : Value) : Rel E w ι (ofValue x) x := by
  unfold ofValue
  split
  · rename_i cs
    refine .agg _ _ (by simp) (fun i x y hx hy => ?_)
    have hy' : cs.toList[i]? = some y := by simpa using hy
    simp only [List.getElem?_map, hy', Option.map_some, Option.some.injEq] at hx
    subst hx
    split
    · exact .nils
    · exact .v _
  · exact .nils
  · rename_i f fs cs
    split
    · rename_i h
      simp only [Bool.and_eq_true, Array.isEmpty_iff] at h
      obtain ⟨rfl, rfl⟩ := h
      exact .fn f [] [] #[] #[] rfl rfl (fun i x y hx _ => by simp at hx) (fun i x y hx _ => by simp at hx)
    · exact .v _
  · exact .v _

/-- Association lists. -/
def get {α : Type} : List (Nat × α) → Nat → Option α
  | [], _ => none
  | (k, x) :: r, i => match Nat.beq k i with
    | true => some x
    | false => get r i

theorem get_cons {α : Type} (k : Nat) (x : α) (r : List (Nat × α)) (i : Nat) : get ((k, x) :: r) i = if k = i then some x else get r i := by
  simp only [get]
  by_cases h : k = i
  · subst h; simp
  · have : Nat.beq k i = false := by
      cases hb : Nat.beq k i with
      | false => rfl
      | true => exact absurd (Nat.eq_of_beq_eq_true hb) h
    simp [this, h]

/-- Own memory: a box (a variable, by its cells) or an array (by its elements, which hold no own addresses). -/
inductive Obj where
  | box (cs : List AV)
  | arr (sz : Nat) (xs : List AV)
  deriving Inhabited

abbrev Hp := List (Nat × Obj)

def ORel (E : Nat → Prop) (w : World) (ι : Inj) (id : Nat) : Obj → Prop
  | .box cs => ∃ b base, ι id = some (some (b, base)) ∧ E b ∧ b < w.heap.size ∧ ∀ (i : Nat) c, cs[i]? = some c → ∃ u, w.cell? ⟨b, base + i, none⟩ = some u ∧ w.frozen? ⟨b, base + i, none⟩ = false ∧ Rel E w ι c u
  | .arr sz xs => (ι id = some none ∧ xs = []) ∨ ∃ b base, ι id = some (some (b, base)) ∧ E b ∧ b < w.heap.size ∧
      (∀ (i : Nat) x, xs[i]? = some x → x.cells.length = sz) ∧
      ∀ (i : Nat) x (j : Nat) c, xs[i]? = some x → x.cells[j]? = some c → ∃ u, w.cell? ⟨b, base + i * sz + j, none⟩ = some u ∧ w.frozen? ⟨b, base + i * sz + j, none⟩ = false ∧ Rel E w noInj c u

structure Rep (ι : Inj) (E : Nat → Prop) (w : World) (n : Nat) (h : Hp) : Prop where
  fresh : ∀ id, n ≤ id → ι id = none
  obj : ∀ id o, get h id = some o → ORel E w ι id o
  sep : ∀ id id' o o' b base base', get h id = some o → get h id' = some o' → ι id = some (some (b, base)) → ι id' = some (some (b, base')) → id = id'
  bound : ∀ b, E b → b < w.heap.size

def Own (ι : Inj) (h : Hp) (b : Nat) : Prop := ∃ id o base, get h id = some o ∧ ι id = some (some (b, base))

theorem Rep.own_E {ι : Inj} {E : Nat → Prop} {w : World} {n : Nat} {h : Hp} (r : Rep ι E w n h) {b : Nat} (ho : Own ι h b) : E b := by
  obtain ⟨id, o, base, hg, hι⟩ := ho
  have := r.obj id o hg
  cases o with
  | box cs => obtain ⟨b', base', h1, h2, _⟩ := this; rw [hι] at h1; cases h1; exact h2
  | arr sz xs =>
    rcases this with ⟨h1, _⟩ | ⟨b', base', h1, h2, _⟩
    · rw [hι] at h1; cases h1
    · rw [hι] at h1; cases h1; exact h2

/-- From one state to a later one. -/
structure Ext (ι : Inj) (h : Hp) (E : Nat → Prop) (w : World) (ι' : Inj) (h' : Hp) (E' : Nat → Prop) (w' : World) : Prop where
  os : w'.os = w.os
  tape : w'.tape = w.tape
  output : w'.output = w.output
  size : w.heap.size ≤ w'.heap.size
  inj : ∀ id p, ι id = some p → ι' id = some p
  old : ∀ b, b < w.heap.size → ¬ Own ι h b → w'.heap[b]? = w.heap[b]? ∧ (E' b ↔ E b)
  own : ∀ b, b < w.heap.size → Own ι' h' b → Own ι h b
  some : ∀ a, (w.cell? a).isSome = true → (w'.cell? a).isSome = true
  mark : ∀ a, a.block < w.heap.size → w'.frozen? a = w.frozen? a
  drawn : w.drawn ≤ w'.drawn

theorem lt_of_cell {w : World} {a : Addr} (h : (w.cell? a).isSome = true) : a.block < w.heap.size := by
  rcases Nat.lt_or_ge a.block w.heap.size with h1 | h1
  · exact h1
  · simp [World.cell?, Array.getElem?_eq_none h1] at h

theorem Ext.refl {ι : Inj} {h : Hp} {E : Nat → Prop} {w : World} : Ext ι h E w ι h E w :=
  ⟨rfl, rfl, rfl, Nat.le_refl _, fun _ _ h => h, fun _ _ _ => ⟨rfl, Iff.rfl⟩, fun _ _ h => h, fun _ h => h, fun _ _ => rfl, Nat.le_refl _⟩

theorem Ext.trans {ι ι' ι'' : Inj} {h h' h'' : Hp} {E E' E'' : Nat → Prop} {w w' w'' : World} (x : Ext ι h E w ι' h' E' w') (y : Ext ι' h' E' w' ι'' h'' E'' w'') : Ext ι h E w ι'' h'' E'' w'' where
  os := y.os.trans x.os
  tape := y.tape.trans x.tape
  output := y.output.trans x.output
  size := Nat.le_trans x.size y.size
  inj := fun id p hp => y.inj _ _ (x.inj _ _ hp)
  old := fun b hb hn => by
    obtain ⟨h1, h2⟩ := x.old b hb hn
    obtain ⟨h3, h4⟩ := y.old b (Nat.lt_of_lt_of_le hb x.size) (fun ho => hn (x.own b hb ho))
    exact ⟨h3.trans h1, h4.trans h2⟩
  own := fun b hb ho => x.own b hb (y.own b (Nat.lt_of_lt_of_le hb x.size) ho)
  some := fun a ha => y.some a (x.some a ha)
  mark := fun a ha => (y.mark a (Nat.lt_of_lt_of_le ha x.size)).trans (x.mark a ha)
  drawn := Nat.le_trans x.drawn y.drawn

theorem Ext.keeps {ι ι' : Inj} {h h' : Hp} {E E' : Nat → Prop} {w w' : World} {n : Nat} (x : Ext ι h E w ι' h' E' w') (r : Rep ι E w n h) : Keeps E w E' w' where
  size := x.size
  froz := fun b hb hE => by
    obtain ⟨h1, h2⟩ := x.old b hb (fun ho => hE (r.own_E ho))
    exact ⟨h1, fun h => hE (h2.1 h)⟩
  some := x.some
  mark := fun a ha => x.mark a (lt_of_cell ha)

theorem Ext.rel {ι ι' : Inj} {h h' : Hp} {E E' : Nat → Prop} {w w' : World} {n : Nat} (x : Ext ι h E w ι' h' E' w') (r : Rep ι E w n h) {a : AV} {y : Value} (hr : Rel E w ι a y) : Rel E' w' ι' a y :=
  hr.keep (x.keeps r) x.inj

end Go.Vm
