/- An abstract machine over the loaded code, part F: operations that make or write memory do what the evaluation says. An abstract machine over the loaded code, part G: the other operations that make or write memory. An abstract machine over the loaded code, part H: freezing, contracts, calls. -/
import Derived.Test.YtgcplfplbcpemaaGreatM1
set_option linter.unusedVariables false
set_option linter.unusedSimpArgs false
namespace Go.Vm

section
variable {P : Program} {E : Nat → Prop} {w : World} {ι : Inj} {n : Nat} {h : Hp}

def EGives (P : Program) (E : Nat → Prop) (w : World) (ι : Inj) (n : Nat) (h : Hp) (s : Sem Next) (K : AV → Nat → Hp → Prop) : Prop :=
  ∃ x v w' ι' E' n' h', (s.run P w = .ok (.value v) w' ∨ (s.run P w = .ok .skip w' ∧ v = undef)) ∧ K x n' h' ∧ Rel E' w' ι' x v ∧ Rep ι' E' w' n' h' ∧ Ext ι h E w ι' h' E' w'

/-! ### elements and their cells -/
theorem flat_len {xs : List AV} {sz : Nat} (hz : ∀ x, x ∈ xs → x.cells.length = sz) : (xs.flatMap AV.cells).length = xs.length * sz := by
  induction xs with
  | nil => simp
  | cons x xs ih =>
    simp only [List.flatMap_cons, List.length_append, List.length_cons]
    rw [ih (fun y hy => hz y (by simp [hy])), hz x (by simp), Nat.add_mul]; omega
theorem flat_at {sz : Nat} : ∀ {xs : List AV} (hz : ∀ x, x ∈ xs → x.cells.length = sz) {i j : Nat} {x y : AV}, xs[i]? = some x → x.cells[j]? = some y → (xs.flatMap AV.cells)[i * sz + j]? = some y
  | [], _, i, j, x, y, hx, _ => by simp at hx
  | a :: xs, hz, 0, j, x, y, hx, hy => by
    simp at hx; subst hx
    simp only [List.flatMap_cons, Nat.zero_mul, Nat.zero_add]
    rw [List.getElem?_append_left]
    · exact hy
    · rcases Nat.lt_or_ge j a.cells.length with h | h
      · exact h
      · simp [h] at hy
  | a :: xs, hz, i + 1, j, x, y, hx, hy => by
    simp only [List.flatMap_cons]
    have hl := hz a (by simp)
    rw [List.getElem?_append_right (by rw [Nat.add_mul]; omega), hl, show (i + 1) * sz + j - sz = i * sz + j by rw [Nat.add_mul]; omega]
    exact flat_at (fun z hm => hz z (by simp [hm])) (by simpa using hx) hy
theorem flat_get {sz : Nat} : ∀ {xs : List AV} (hz : ∀ x, x ∈ xs → x.cells.length = sz) {k : Nat} {y : AV}, (xs.flatMap AV.cells)[k]? = some y → ∃ i x j, xs[i]? = some x ∧ x.cells[j]? = some y ∧ j < sz ∧ k = i * sz + j
  | [], _, k, y, h => by simp at h
  | a :: xs, hz, k, y, h => by
    simp only [List.flatMap_cons] at h
    have hl := hz a (by simp)
    rcases Nat.lt_or_ge k sz with hk | hk
    · rw [List.getElem?_append_left (by omega)] at h
      exact ⟨0, a, k, rfl, h, hk, by omega⟩
    · rw [List.getElem?_append_right (by omega), hl] at h
      obtain ⟨i, x, j, h1, h2, h3, h4⟩ := flat_get (fun z hm => hz z (by simp [hm])) h
      exact ⟨i + 1, x, j, by simpa using h1, h2, h3, by rw [Nat.add_mul]; omega⟩

theorem run_load_at {b o : Nat} {cs : List AV} (hc : At E w ι b o cs) : ∃ c, (∀ w' : World, w'.heap = w.heap → (loadCells ⟨b, o, none⟩ cs.length).run P w' = .ok c w') ∧ RL E w ι cs c := by
  let g := fun j => (w.cell? ⟨b, o + j, none⟩).getD default
  have hg : ∀ j y, cs[j]? = some y → w.cell? ⟨b, o + j, none⟩ = some (g j) ∧ Rel E w ι y (g j) := by
    intro j y hj
    obtain ⟨u, hu, hr⟩ := hc j y hj
    exact ⟨by simp [g, hu], by simp [g, hu]; exact hr⟩
  have hl := fun (w' : World) (hw : w'.heap = w.heap) => run_loadCells_list (P := P) w' ⟨b, o, none⟩ ((List.range cs.length).map g) (fun j v hv => by
    rw [Addr.add_none, cell_of_heap (a := ⟨b, _, none⟩) (show w'.heap[b]? = w.heap[b]? by rw [hw])]
    rcases Nat.lt_or_ge j cs.length with hj | hj
    · simp [List.getElem?_range hj] at hv
      rw [← hv]; exact (hg j cs[j] (List.getElem?_eq_getElem hj)).1
    · simp [hj] at hv)
  simp only [List.length_map, List.length_range] at hl
  refine ⟨_, hl, by simp, fun i x y hx hy => ?_⟩
  have hi : i < cs.length := by
    rcases Nat.lt_or_ge i cs.length with h | h
    · exact h
    · simp [h] at hx
  simp [List.getElem?_range hi] at hy
  rw [← hy]; exact (hg i x hx).2

/-- An array in a new block. -/
theorem orel_arr {E' : Nat → Prop} {w' : World} {ι' : Inj} {id b base sz : Nat} {xs : List AV} (hι : ι' id = some (some (b, base))) (hE : E' b) (hb : b < w'.heap.size) (hz : ∀ x, x ∈ xs → x.cells.length = sz)
    (hc : ∀ (k : Nat) y, (xs.flatMap AV.cells)[k]? = some y → ∃ u, w'.cell? ⟨b, base + k, none⟩ = some u ∧ w'.frozen? ⟨b, base + k, none⟩ = false ∧ Rel E' w' noInj y u) : ORel E' w' ι' id (.arr sz xs) :=
  .inr ⟨b, base, hι, hE, hb, fun i x hx => hz x (List.mem_of_getElem? hx), fun i x j c hx hj => by
    have := hc _ _ (flat_at hz hx hj)
    rwa [← Nat.add_assoc] at this⟩

theorem sz_of (r : Rep ι E w n h) {id sz : Nat} {xs : List AV} (hg : get h id = some (.arr sz xs)) : ∀ x, x ∈ xs → x.cells.length = sz := by
  intro x hx
  obtain ⟨i, hi⟩ := List.mem_iff_getElem?.1 hx
  rcases r.obj id _ hg with ⟨_, h2⟩ | ⟨b, base, _, _, _, h4, _⟩
  · subst h2; simp at hi
  · exact h4 i x hi

/-- the cells of an own slice -/
theorem os_at (r : Rep ι E w n h) {id sz off len : Nat} {xs : List AV} {a : Option Addr} {l c : Nat} (hg : get h id = some (.arr sz xs)) (hX : Rel E w ι (.os id sz off len) (.slice a l c)) (hl : off + len ≤ xs.length) :
    l = len ∧ (len = 0 ∨ ∃ b o, a = some ⟨b, o, none⟩ ∧ At E w noInj b o (((xs.drop off).take len).flatMap AV.cells)) := by
  cases hX with
  | osz => exact ⟨rfl, .inl rfl⟩
  | os _ _ _ _ b base cap hι hc hcell =>
    refine ⟨rfl, ?_⟩
    by_cases h0 : len = 0
    · exact .inl h0
    · refine .inr ⟨b, base + off * sz, rfl, ?_⟩
      have hz := sz_of r hg
      rcases r.obj id _ hg with ⟨h1, _⟩ | ⟨b', base', h1, h2, h3, h4, h5⟩
      · rw [hι] at h1; cases h1
      · rw [hι] at h1; cases h1
        intro k y hk
        obtain ⟨i, x, j, e1, e2, e3, rfl⟩ := flat_get (fun x hx => hz x (List.mem_of_mem_drop (List.mem_of_mem_take hx))) hk
        have e1' : xs[off + i]? = some x := by
          rw [List.getElem?_take] at e1
          split at e1
          · rwa [List.getElem?_drop] at e1
          · cases e1
        obtain ⟨u, hu, _, hr⟩ := h5 _ _ _ _ e1' e2
        refine ⟨u, ?_, hr⟩
        rw [← hu]; congr 2; rw [Nat.add_mul]; omega

/-- what a source holds: its length, and its cells when they are loaded -/
def Src (P : Program) (E : Nat → Prop) (w : World) (sz : Nat) (y : Value) (ys : List AV) : Prop :=
  (Builtin.lenOf y).run P w = .ok ys.length w ∧ (∀ x, x ∈ ys → x.cells.length = sz) ∧
  (∃ c, (∀ w' : World, w'.heap = w.heap → (Builtin.firstCells sz ys.length y).run P w' = .ok c w') ∧ RL E w noInj (ys.flatMap AV.cells) c) ∧
  ∀ m, m ≤ ys.length → ∃ c, (∀ w' : World, w'.heap = w.heap → (Builtin.firstCells sz m y).run P w' = .ok c w') ∧ RL E w noInj ((ys.take m).flatMap AV.cells) c

theorem src_of {sz : Nat} {y : Value} {ys : List AV} (h1 : (Builtin.lenOf y).run P w = .ok ys.length w) (h2 : ∀ x, x ∈ ys → x.cells.length = sz)
    (h3 : ∀ m, m ≤ ys.length → ∃ c, (∀ w' : World, w'.heap = w.heap → (Builtin.firstCells sz m y).run P w' = .ok c w') ∧ RL E w noInj ((ys.take m).flatMap AV.cells) c) : Src P E w sz y ys :=
  ⟨h1, h2, by simpa using h3 ys.length (Nat.le_refl _), h3⟩

theorem rl_nil : RL E w ι [] #[] := ⟨rfl, fun i x y hx _ => by simp at hx⟩

theorem first_at {sz b o l c : Nat} {ys : List AV} (hz : ∀ x, x ∈ ys → x.cells.length = sz) (hat : At E w noInj b o (ys.flatMap AV.cells)) (m : Nat) (hm : m ≤ ys.length) :
    ∃ cc, (∀ w' : World, w'.heap = w.heap → (Builtin.firstCells sz m (.slice (some ⟨b, o, none⟩) l c)).run P w' = .ok cc w') ∧ RL E w noInj ((ys.take m).flatMap AV.cells) cc := by
  have hat' : At E w noInj b o ((ys.take m).flatMap AV.cells) := fun j y hy => hat j y (by
    have : ys.flatMap AV.cells = (ys.take m).flatMap AV.cells ++ (ys.drop m).flatMap AV.cells := by rw [← List.flatMap_append, List.take_append_drop]
    rw [this, List.getElem?_append_left]
    · exact hy
    · rcases Nat.lt_or_ge j ((ys.take m).flatMap AV.cells).length with h | h
      · exact h
      · rw [List.getElem?_eq_none h] at hy; cases hy)
  obtain ⟨cc, h1, h2⟩ := run_load_at (P := P) hat'
  rw [flat_len (sz := sz) (fun x hx => hz x (List.mem_of_mem_take hx)), List.length_take, Nat.min_eq_left hm] at h1
  exact ⟨cc, fun w' hw => by simpa [Builtin.firstCells] using h1 w' hw, h2⟩

theorem src_nil (sz : Nat) (a : Option Addr) (c : Nat) : Src P E w sz (.slice a 0 c) [] :=
  src_of (by simp [Builtin.lenOf]) (by simp) (fun m hm => by
    have : m = 0 := by simpa using hm
    subst this
    cases a with
    | none => exact ⟨#[], fun w' _ => by simp [Builtin.firstCells], rl_nil⟩
    | some a =>
      refine ⟨#[], fun w' _ => ?_, rl_nil⟩
      have := run_loadCells_list (P := P) w' a [] (by simp)
      simpa [Builtin.firstCells] using this)

theorem src_os (r : Rep ι E w n h) {id sz off len : Nat} {xs : List AV} {y : Value} (hg : get h id = some (.arr sz xs)) (hY : Rel E w ι (.os id sz off len) y) (hl : off + len ≤ xs.length) : Src P E w sz y ((xs.drop off).take len) := by
  have hz : ∀ x, x ∈ (xs.drop off).take len → x.cells.length = sz := fun x hx => sz_of r hg x (List.mem_of_mem_drop (List.mem_of_mem_take hx))
  have hY' := hY
  cases hY with
  | osz id _ _ a => rw [List.take_zero]; exact src_nil _ _ _
  | os _ _ _ _ b base cap hι hc hcell =>
    rcases (os_at r hg hY' hl).2 with h0 | ⟨b', o', e, hat⟩
    · subst h0
      rw [List.take_zero]
      exact src_nil _ _ _
    · cases e
      exact src_of (by simp [Builtin.lenOf]; omega) hz (fun m hm => first_at hz hat m hm)

theorem srcQ_sound (r : Rep ι E w n h) {sz : Nat} {Y : AV} {y : Value} {K : List AV → Prop} (hY : Rel E w ι Y y) (hq : srcQ h sz Y K) : ∃ ys, Src P E w sz y ys ∧ K ys := by
  cases Y <;> simp only [srcQ] at hq
  case nils => cases hY; exact ⟨[], src_nil _ _ _, hq⟩
  case lst ys =>
    obtain ⟨h1, h2⟩ := hq.elim
    refine ⟨ys, ?_, h2⟩
    cases hY with
    | lnil => exact src_nil _ _ _
    | lst _ b off nn cap sz' hE hb hn hcap hz g hg hr =>
      subst hn
      by_cases h0 : ys = []
      · subst h0
        exact src_nil _ _ _
      · have hsz : sz' = sz := by
          cases ys with
          | nil => exact absurd rfl h0
          | cons a l => rw [← hz 0 a rfl]; exact h1 a (by simp)
        subst hsz
        have hat : At E w noInj b off (ys.flatMap AV.cells) := fun k y hk => by
          obtain ⟨i, x, j, e1, e2, e3, rfl⟩ := flat_get h1 hk
          exact ⟨g i j, by rw [← Nat.add_assoc]; exact hg i x j y e1 e2, hr i x j y e1 e2⟩
        exact src_of (by simp [Builtin.lenOf]) h1 (fun m hm => first_at h1 hat m hm)
  case os id sz' off len =>
    cases hs : Nat.beq sz' sz with
    | false => simp [hs] at hq
    | true =>
      simp only [hs] at hq
      have hs := Nat.eq_of_beq_eq_true hs
      subst hs
      cases hg : get h id with
      | none => simp [hg] at hq
      | some ob =>
        cases ob with
        | box _ => simp [hg] at hq
        | arr sz'' xs =>
          simp only [hg] at hq
          cases hs' : Nat.beq sz'' sz' with
          | false => simp [hs'] at hq
          | true =>
            simp only [hs'] at hq
            have hs' := Nat.eq_of_beq_eq_true hs'
            subst hs'
            obtain ⟨h1, h2⟩ := hq.elim
            exact ⟨_, src_os r hg hY h1, h2⟩

theorem zeroEl_spec {e : TypeId} {z : AV} (hz : zeroEl P e = some z) : ∃ zv i sz, (zeroValue e).run P w = .ok zv w ∧ P.info? e = some i ∧ i.size = sz ∧ RL E w noInj z.cells zv.cells ∧ z.cells.length = sz ∧ zv.cells.size = sz := by
  unfold zeroEl at hz
  split at hz
  case h_2 => cases hz
  rename_i zc m hzc hm
  split at hz
  case h_2 => cases hz
  rename_i hb
  simp only [Bool.and_eq_true] at hb
  obtain ⟨hl, hp⟩ := hb
  have hl := Nat.eq_of_beq_eq_true hl
  obtain ⟨zv, i, h1, h2, h3, _⟩ := zeroCells_spec (E := E) (w := w) (ι := noInj) hzc
  have hsz : i.size = m := by unfold tsz at hm; simp [h3] at hm; exact hm
  have hc : z.cells = zc := by
    unfold ofCells at hz
    split at hz
    · cases hz; rfl
    · split at hz
      · cases hz
        rename_i c
        simp only [List.all_cons, List.all_nil, Bool.and_true] at hp
        cases z <;> first | rfl | simp [AV.pure1] at hp
      · cases hz
    · cases hz
  exact ⟨zv, i, m, h1, h3, hsz, by rw [hc]; exact h2, by rw [hc]; exact hl, by rw [← h2.1]; exact hl⟩

theorem rep_drew (r : Rep ι E w n h) : Rep ι E w.drew n h ∧ Ext ι h E w ι h E w.drew := by
  have hk : Keeps E w E w.drew := ⟨Nat.le_refl _, fun b _ hE => ⟨rfl, hE⟩, fun _ h => h, fun _ _ => rfl⟩
  exact ⟨⟨r.fresh, fun id o hg => (r.obj id o hg).keep hk (fun _ _ h => h) (fun b base hb => r.own_E ⟨id, o, base, hg, hb⟩) (fun _ _ _ => rfl), r.sep, r.bound⟩,
    ⟨rfl, rfl, rfl, Nat.le_refl _, fun _ _ h => h, fun _ _ _ => ⟨rfl, Iff.rfl⟩, fun _ _ h => h, fun _ h => h, fun _ _ => rfl, Nat.le_succ _⟩⟩

theorem RL.keep {E' : Nat → Prop} {w' : World} {xs : List AV} {c : Array Value} (h : RL E w noInj xs c) (hk : Keeps E w E' w') : RL E' w' noInj xs c :=
  ⟨h.1, fun i x y hx hy => (h.2 i x y hx hy).keep hk (fun _ _ h => h)⟩

/-- a new array -/
theorem new_arr (r : Rep ι E w n h) {h0 : Hp} (hs : Sub h0 h) {sz : Nat} {xs : List AV} {c : Array Value} {t : TypeId} {cap : Nat} (hz : ∀ x, x ∈ xs → x.cells.length = sz) 
    (hc : ∀ (k : Nat) y, (xs.flatMap AV.cells)[k]? = some y → ∃ u, c[k]? = some u ∧ Rel E w noInj y u) {len : Nat} (hsz : cap * sz ≤ c.size) (hl : len ≤ cap) :
    ∃ ι' E', Rel E' (w.alloc (.cells c t)) ι' (.os n sz 0 len) (.slice (some ⟨w.heap.size, 0, none⟩) len cap) ∧ Rep ι' E' (w.alloc (.cells c t)) (n + 1) ((n, .arr sz xs) :: h0) ∧ Ext ι h E w ι' ((n, .arr sz xs) :: h0) E' (w.alloc (.cells c t)) := by
  have ho : ORel (Enew E w) (w.alloc (.cells c t)) (ι.set n (some (w.heap.size, 0))) n (.arr sz xs) := by
    refine orel_arr (b := w.heap.size) (base := 0) (Inj.set_same _) (.inr rfl) (by simp) hz (fun k y hk => ?_)
    obtain ⟨u, h1, h2⟩ := hc k y hk
    exact ⟨u, by simpa using h1, by simp, h2.keep (keeps_alloc _) (fun _ _ h => h)⟩
  obtain ⟨h1, h2⟩ := step_new (r.sub hs) (.arr sz xs) c t ho
  refine ⟨_, _, ?_, h1, (Ext.sub hs).trans h2⟩
  have := Rel.os (E := Enew E w) (w := w.alloc (.cells c t)) n sz 0 len w.heap.size 0 cap (Inj.set_same (ι := ι) (n := n) _) hl (fun j hj => by
    simp only [Nat.zero_mul, Nat.zero_add]
    refine ⟨?_, by simp⟩
    simp
    omega)
  simpa using this

/-- an array with no block -/
theorem new_virtual (r : Rep ι E w n h) {h0 : Hp} (hs : Sub h0 h) (sz : Nat) (a : Option Addr) : ∃ ι', Rel E w ι' (.os n sz 0 0) (.slice a 0 0) ∧ Rep ι' E w (n + 1) ((n, .arr sz []) :: h0) ∧ Ext ι h E w ι' ((n, .arr sz []) :: h0) E w := by
  have hx := Inj.set_ext r none
  have hne : ∀ {id o}, get h0 id = some o → id ≠ n := fun hg e => by subst e; rw [(r.sub hs).get_n] at hg; cases hg
  have hset : ∀ {id}, id ≠ n → (ι.set n none) id = ι id := fun hi => by simp [Inj.set, hi]
  refine ⟨ι.set n none, .osz _ _ _ _, ⟨fun id hid => ?_, fun id o hg => ?_, fun id id' o o' b base base' h1 h2 h3 h4 => ?_, r.bound⟩, ⟨rfl, rfl, rfl, Nat.le_refl _, hx, fun b hb hn => ⟨rfl, Iff.rfl⟩, fun b hb ho => ?_, fun _ h => h, fun _ _ => rfl, Nat.le_refl _⟩⟩
  · rw [hset (by omega)]; exact r.fresh id (by omega)
  · rw [get_cons] at hg
    split at hg
    · rename_i e; subst e; cases hg; exact .inl ⟨Inj.set_same _, rfl⟩
    · exact (r.obj id o (hs _ _ hg)).keep Keeps.refl hx (fun b base hb => r.own_E ⟨id, o, base, hs _ _ hg, hb⟩) (fun _ _ _ => rfl)
  · rw [get_cons] at h1 h2
    split at h1
    · rename_i e; subst e; rw [Inj.set_same] at h3; cases h3
    · split at h2
      · rename_i e; subst e; rw [Inj.set_same] at h4; cases h4
      · rw [hset (hne h1)] at h3; rw [hset (hne h2)] at h4
        exact r.sep _ _ _ _ _ _ _ (hs _ _ h1) (hs _ _ h2) h3 h4
  · obtain ⟨id, o, base, hg, hι⟩ := ho
    rw [get_cons] at hg
    split at hg
    · rename_i e; subst e; rw [Inj.set_same] at hι; cases hι
    · rw [hset (hne hg)] at hι
      exact ⟨id, o, base, hs _ _ hg, hι⟩

/-! ### append -/
theorem growBy_le (need : Nat) : ∀ (r c : Nat), c < need → Builtin.growBy need r c ≤ 2 * need + 192
  | 0, c, h => by simp only [Builtin.growBy]; omega
  | r + 1, c, h => by
    simp only [Builtin.growBy, ge_iff_le]
    rw [if_neg (by omega)]
    by_cases h2 : c + (c + 768) / 4 < need
    · exact growBy_le need r _ h2
    · cases r with
      | zero => simp only [Builtin.growBy]; omega
      | succ r => simp only [Builtin.growBy, ge_iff_le]; rw [if_pos (by omega)]; omega
theorem nextcap_le {need cap : Nat} (h : cap < need) : Builtin.nextslicecap need cap ≤ 2 * need + 192 := by
  unfold Builtin.nextslicecap
  split
  · omega
  · split
    · omega
    · exact growBy_le need 4 cap h

/-- what is appended, when it is asked for: by its elements -/
structure AppSrc (P : Program) (E : Nat → Prop) (w : World) (t' e : TypeId) (sz : Nat) (y : Value) (ys : List AV) : Prop where
  len : ∀ x, x ∈ ys → x.cells.length = sz
  run : (∃ e', P.underlying t' = some (.slice e') ∧ Src P E w sz y ys) ∨
    (∃ k' k : IntKind, P.underlying t' = some (.int k') ∧ y = .int k (ys.length : Int) ∧ ys.length < 140737488355328 ∧ ∃ z, zeroEl P e = some z ∧ ys = List.replicate ys.length z)

theorem zeroCells_get {z : Array Value} {m sz : Nat} (hz : z.size = sz) {zc : AV} (h : RL E w noInj zc.cells z) {k : Nat} {y : AV} (hk : ((List.replicate m zc).flatMap AV.cells)[k]? = some y) :
    ∃ u, (Builtin.zeroCells z m)[k]? = some u ∧ Rel E w noInj y u := by
  obtain ⟨i, x, j, h1, h2, h3, rfl⟩ := flat_get (sz := sz) (fun x hx => by rw [List.eq_of_mem_replicate hx, h.1, hz]) hk
  have hi : i < m := by
    rcases Nat.lt_or_ge i m with h | h
    · exact h
    · simp [Nat.not_lt.2 h] at h1
  simp [hi] at h1
  subst h1
  have hj : j < z.size := by omega
  have hlt : i * sz + j < m * z.size := by
    rw [hz]
    have := Nat.mul_le_mul_right sz (Nat.succ_le_of_lt hi)
    rw [Nat.succ_mul] at this
    omega
  refine ⟨z[j], ?_, h.2 j y _ h2 (Array.getElem?_eq_getElem hj)⟩
  unfold Builtin.zeroCells
  rw [Array.getElem?_map, Array.getElem?_range, if_pos hlt]
  simp only [Option.map_some, Option.some.injEq]
  have : (i * sz + j) % z.size = j := by rw [hz, Nat.mul_comm, Nat.mul_add_mod]; exact Nat.mod_eq_of_lt (by omega)
  rw [this]
  simp [hj]

theorem zeroCells_size (z : Array Value) (m : Nat) : (Builtin.zeroCells z m).size = m * z.size := by simp [Builtin.zeroCells]

theorem wrap_small {m : Nat} (h : m < 140737488355329) : IntKind.i64.wrap (m : Int) = m := by
  simp only [IntKind.wrap, IntKind.signed, IntKind.bits]
  simp
  omega

/-- The source, in the words of the run: how many, and its cells. -/
theorem AppSrc.use {t' e : TypeId} {sz : Nat} {y : Value} {ys : List AV} {i : TypeInfo} (hs : AppSrc P E w t' e sz y ys) (hi : P.info? e = some i) (hsz : i.size = sz) :
    ∃ c : Array Value, RL E w noInj (ys.flatMap AV.cells) c ∧
      ((∃ e', P.underlying t' = some (.slice e') ∧ (Builtin.lenOf y).run P w = .ok ys.length w ∧ (∀ w' : World, w'.heap = w.heap → (Builtin.firstCells sz ys.length y).run P w' = .ok c w')) ∨
       (∃ k' k : IntKind, P.underlying t' = some (.int k') ∧ y = .int k (ys.length : Int) ∧ ys.length < 140737488355328 ∧ ((ys.length * sz = 0 ∧ c = #[]) ∨ (ys.length * sz ≠ 0 ∧ ∃ zv, (∀ w' : World, (zeroValue e).run P w' = .ok zv w') ∧ c = Builtin.zeroCells zv.cells ys.length)))) := by
  obtain ⟨hl, ⟨e', hd, hr⟩ | ⟨k', k, hd, rfl, hlt, z, hz, he⟩⟩ := hs
  · obtain ⟨h1, h2, ⟨c, h3, h4⟩, _⟩ := hr
    exact ⟨c, h4, .inl ⟨e', hd, h1, h3⟩⟩
  · obtain ⟨zv, i', sz', h1, h2, h3, h4, h5, h6⟩ := zeroEl_spec (E := E) (w := w) hz
    rw [hi] at h2; cases h2
    have hsz' : sz' = sz := by omega
    subst hsz'
    have hzv : ∀ w' : World, (zeroValue e).run P w' = .ok zv w' := by
      intro w'
      have hh := h1
      simp only [zeroValue, typeInfo, Sem.run_bind, run_program, Result.andThen_ok, hi, Sem.run_pure] at hh ⊢
      split at hh
      · simp at hh ⊢; exact hh
      · simp at hh
    by_cases h0 : ys.length * sz' = 0
    · refine ⟨#[], ?_, .inr ⟨k', k, hd, rfl, hlt, .inl ⟨h0, rfl⟩⟩⟩
      have : (ys.flatMap AV.cells) = [] := by rw [← List.length_eq_zero_iff, flat_len hl]; exact h0
      rw [this]; exact rl_nil
    · refine ⟨_, ⟨?_, fun q x u hx hu => ?_⟩, .inr ⟨k', k, hd, rfl, hlt, .inr ⟨h0, zv, hzv, rfl⟩⟩⟩
      · rw [flat_len hl, zeroCells_size, h6]
      · rw [he] at hx
        obtain ⟨u', h7, h8⟩ := zeroCells_get h6 h4 hx
        rw [h7] at hu; cases hu; exact h8

/-- append where there is room -/
theorem run_append_fit {t t' ty e : TypeId} {sz len cap : Nat} {base : Option Addr} {y : Value} {ys : List AV} {i : TypeInfo} (hs : AppSrc P E w t' e sz y ys) (hu : P.underlying t = some (.slice e)) (hi : P.info? e = some i) (hsz : i.size = sz)
    (hb : ys.length * i.bytes ≤ 281474976710656) (hfit : len + ys.length ≤ cap) :
    ∃ c, RL E w noInj (ys.flatMap AV.cells) c ∧ ∀ w2, (match base with | some a => (storeCells (a.add (len * sz)) c.toList).run P w = .ok () w2 | none => w2 = w) →
      (Builtin.append_ #[t, t'] ty #[.slice base len cap, y]).run P w = .ok (.slice base (len + ys.length) cap) w2 := by
  obtain ⟨c, hrl, hrun⟩ := hs.use hi hsz
  refine ⟨c, hrl, fun w2 hw2 => ?_⟩
  have hso : (sizeOf e).run P w = .ok sz w := by simp [sizeOf, typeInfo, hi, hsz]
  rcases hrun with ⟨e', hd, hlen, hfc⟩ | ⟨k', k, hd, rfl, hlt, hc⟩
  · have hfc := hfc w rfl
    cases base with
    | none =>
      subst hw2
      simp [Builtin.append_, run_underlying hu, run_underlying hd, hso, hlen, hfit, hfc]
    | some a =>
      simp only at hw2
      simp [Builtin.append_, run_underlying hu, run_underlying hd, hso, hlen, hfit, hfc, hw2]
  · have hwr := wrap_small (m := ys.length) (by omega)
    have h1 : ¬ ((ys.length : Int) < 0) := by omega
    have hti : (typeInfo e).run P w = .ok i w := by simp [typeInfo, hi]
    have hbi : ¬ (281474976710656 < (ys.length : Int) * (i.bytes : Int)) := by
      rw [← Int.natCast_mul]; omega
    rcases hc with ⟨h0, rfl⟩ | ⟨h0, zv, hzv, rfl⟩
    · cases base with
      | none =>
        subst hw2
        simp [Builtin.append_, run_underlying hu, run_underlying hd, hso, asInt, asIntOf, hwr, h1, hti, hbi, hfit, h0]
      | some a =>
        simp only at hw2
        simp [Builtin.append_, run_underlying hu, run_underlying hd, hso, asInt, asIntOf, hwr, h1, hti, hbi, hfit, h0]
        simp [hw2]
    · cases base with
      | none =>
        subst hw2
        simp [Builtin.append_, run_underlying hu, run_underlying hd, hso, asInt, asIntOf, hwr, h1, hti, hbi, hfit, hzv]
      | some a =>
        simp only at hw2
        simp [Builtin.append_, run_underlying hu, run_underlying hd, hso, asInt, asIntOf, hwr, h1, hti, hbi, hfit, h0, hzv, hw2]

/-- append where there is none -/
theorem run_append_grow {t t' ty e : TypeId} {sz len cap : Nat} {base : Option Addr} {y : Value} {ys : List AV} {i : TypeInfo} (hs : AppSrc P E w t' e sz y ys) (hu : P.underlying t = some (.slice e)) (hi : P.info? e = some i) (hsz : i.size = sz) (hb0 : i.bytes ≠ 0)
    (hb : (len + ys.length + 96) * i.bytes ≤ 140737488355328) (hfit : cap < len + ys.length) {old : Array Value} (hold : ∀ w' : World, w'.heap = w.heap → (Builtin.firstCells sz len (.slice base len cap)).run P w' = .ok old w')
    {z : AV} (hz : zeroEl P e = some z) :
    ∃ (c rest : Array Value) (cap' : Nat), RL E w noInj (ys.flatMap AV.cells) c ∧ len + ys.length ≤ cap' ∧ rest.size = (cap' - (len + ys.length)) * sz ∧
      (Builtin.append_ #[t, t'] ty #[.slice base len cap, y]).run P w = .ok (.slice (some ⟨w.heap.size, 0, none⟩) (len + ys.length) cap') (w.drew.alloc (.cells (old ++ c ++ rest) e)) := by
  obtain ⟨c, hrl, hrun⟩ := hs.use hi hsz
  have hso : ∀ w' : World, (sizeOf e).run P w' = .ok sz w' := fun w' => by simp [sizeOf, typeInfo, hi, hsz]
  have hti : ∀ w' : World, (typeInfo e).run P w' = .ok i w' := fun w' => by simp [typeInfo, hi]
  obtain ⟨zv, i', sz', z1, z2, z3, z4, z5, z6⟩ := zeroEl_spec (E := E) (w := w) hz
  rw [hi] at z2; cases z2
  have hsz' : sz' = sz := by omega
  subst hsz'
  have hzv : ∀ w' : World, (zeroValue e).run P w' = .ok zv w' := by
    intro w'
    have hh := z1
    simp only [zeroValue, typeInfo, Sem.run_bind, run_program, Result.andThen_ok, hi, Sem.run_pure] at hh ⊢
    split at hh
    · simp at hh ⊢; exact hh
    · simp at hh
  have hneed : (len + ys.length) * i.bytes ≤ 140737488355328 := Nat.le_trans (Nat.mul_le_mul_right _ (by omega)) hb
  have hneed2 : len + ys.length ≤ 140737488355328 := Nat.le_trans (Nat.le_mul_of_pos_right _ (by omega)) hneed
  have hnext : ¬ (281474976710656 < Builtin.nextslicecap (len + ys.length) cap * i.bytes) := by
    have h1 := nextcap_le hfit
    have h2 : Builtin.nextslicecap (len + ys.length) cap * i.bytes ≤ (2 * (len + ys.length + 96)) * i.bytes := Nat.mul_le_mul_right _ (by omega)
    rw [Nat.mul_assoc] at h2
    omega
  let q := Question.appendCap (len + ys.length) cap e
  let cap' := q.cut (w.tape w.drawn q)
  have hcap : len + ys.length ≤ cap' := by
    show len + ys.length ≤ (len + ys.length) + _
    omega
  refine ⟨c, Builtin.zeroCells zv.cells (cap' - (len + ys.length)), cap', hrl, hcap, by rw [zeroCells_size, z6], ?_⟩
  have hfit' : ¬ (len + ys.length ≤ cap) := by omega
  have hmax : ¬ ((9223372036854775807 : Int) < (len : Int) + (ys.length : Int)) := by omega
  have hq : (choose q).run P w = .ok cap' w.drew := by simp [q, cap', Question.forced]
  have hold := hold w.drew rfl
  have hnr : ∀ (w' : World) (cs : Array Value), (newRow e cs).run P w' = .ok ⟨w'.heap.size, 0, none⟩ (w'.alloc (.cells cs e)) := fun w' cs => by simp [newRow]
  rcases hrun with ⟨e', hd, hlen, hfc⟩ | ⟨k', k, hd, rfl, hlt, hc⟩
  · have hfc := hfc w.drew rfl
    simp [Builtin.append_, run_underlying hu, run_underlying hd, hso, hti, hlen, hfit', hfc, hnext, hold, hzv, hnr, hb0, Question.forced, cap', q]
  · have hwr := wrap_small (m := ys.length) (by omega)
    have h1 : ¬ ((ys.length : Int) < 0) := by omega
    have hbi : ¬ (281474976710656 < (ys.length : Int) * (i.bytes : Int)) := by
      rw [← Int.natCast_mul]
      have : ys.length * i.bytes ≤ (len + ys.length) * i.bytes := Nat.mul_le_mul_right _ (by omega)
      omega
    have hmax' : max (ys.length : Int) 0 = ys.length := by omega
    rcases hc with ⟨h0, rfl⟩ | ⟨h0, zv', hzv', rfl⟩
    · simp [Builtin.append_, run_underlying hu, run_underlying hd, hso, hti, asInt, asIntOf, hwr, h1, hbi, hfit', hnext, hold, hzv, hnr, h0, hmax, hmax', Question.forced, cap', q]
    · have : zv' = zv := by have := (hzv' w).symm.trans (hzv w); cases this; rfl
      subst this
      simp [Builtin.append_, run_underlying hu, run_underlying hd, hso, hti, asInt, asIntOf, hwr, h1, hbi, hfit', hnext, hold, hzv, hnr, h0, hmax, hmax', Question.forced, cap', q]

theorem one_cells {xs : List AV} {c : Array Value} (h : RL E w noInj (xs.flatMap AV.cells) c) (ho : ∀ x, x ∈ xs → x.cells.all AV.one = true) : ∀ v, v ∈ c.toList → v.oneCell' = true := by
  intro v hv
  obtain ⟨i, hi⟩ := List.mem_iff_getElem?.1 hv
  have hi' : c[i]? = some v := by simpa using hi
  have hlt : i < (xs.flatMap AV.cells).length := by
    rw [h.1]
    rcases Nat.lt_or_ge i c.size with h' | h'
    · exact h'
    · simp [h'] at hi'
  have hx := List.getElem?_eq_getElem hlt
  have hr := h.2 i _ v hx hi'
  have hm := List.getElem_mem hlt
  rw [List.mem_flatMap] at hm
  obtain ⟨x, hx1, hx2⟩ := hm
  have := ho x hx1
  rw [List.all_eq_true] at this
  exact rel_one hr (this _ hx2)

theorem value_gives {s : Sem Value} {K : AV → Nat → Hp → Prop} {x : AV} {v : Value} {w' : World} {ι' : Inj} {E' : Nat → Prop} {n' : Nat} {h' : Hp} (hs : s.run P w = .ok v w') (hk : K x n' h') (hr : Rel E' w' ι' x v) (hrep : Rep ι' E' w' n' h') (hx : Ext ι h E w ι' h' E' w') :
    EGives P E w ι n h (do pure (.value (← s))) K := ⟨x, v, w', ι', E', n', h', .inl (by simp [hs]), hk, hr, hrep, hx⟩

theorem app_grow (r : Rep ι E w n h) {h0 : Hp} (hs0 : Sub h0 h) {t t' ty e : TypeId} {len cap : Nat} {base : Option Addr} {y : Value} {zs ys : List AV} {i : TypeInfo} (hs : AppSrc P E w t' e i.size y ys) (hu : P.underlying t = some (.slice e)) (hi : P.info? e = some i) (hb0 : i.bytes ≠ 0)
    (hb : (len + ys.length + 96) * i.bytes ≤ 140737488355328) (hfit : cap < len + ys.length) {old : Array Value} (hold : ∀ w' : World, w'.heap = w.heap → (Builtin.firstCells i.size len (.slice base len cap)).run P w' = .ok old w')
    {z : AV} (hz : zeroEl P e = some z) (hzs : ∀ x, x ∈ zs → x.cells.length = i.size) (hol : RL E w noInj (zs.flatMap AV.cells) old) (hlen : zs.length = len) {K : AV → Nat → Hp → Prop}
    (hk : K (.os n i.size 0 (len + ys.length)) (n + 1) ((n, .arr i.size (zs ++ ys)) :: h0)) :
    EGives P E w ι n h (do pure (.value (← Builtin.append_ #[t, t'] ty #[.slice base len cap, y]))) K := by
  obtain ⟨c, rest, cap', h1, h2, h3, h4⟩ := run_append_grow (ty := ty) hs hu hi rfl hb0 hb hfit hold hz
  obtain ⟨rd, xd⟩ := rep_drew r
  have hkd : Keeps E w E w.drew := xd.keeps r
  have hz' : ∀ x, x ∈ zs ++ ys → x.cells.length = i.size := by
    intro x hx
    rcases List.mem_append.1 hx with hx | hx
    · exact hzs x hx
    · exact hs.len x hx
  have e1 : old.size = len * i.size := by rw [← hol.1, flat_len hzs, hlen]
  have e2 : c.size = ys.length * i.size := by rw [← h1.1, flat_len hs.len]
  obtain ⟨ι', E', g1, g2, g3⟩ := new_arr rd hs0 (sz := i.size) (xs := zs ++ ys) (c := old ++ c ++ rest) (t := e) (cap := cap') (len := len + ys.length) hz' (fun k x hk => by
    rw [List.flatMap_append] at hk
    by_cases hlt : k < old.size
    · rw [List.getElem?_append_left (by rw [hol.1]; exact hlt)] at hk
      refine ⟨old[k], ?_, (hol.2 k x _ hk (Array.getElem?_eq_getElem hlt)).keep hkd (fun _ _ h => h)⟩
      rw [Array.append_assoc, Array.getElem?_append_left hlt]
      exact Array.getElem?_eq_getElem hlt
    · rw [List.getElem?_append_right (by rw [hol.1]; omega), hol.1] at hk
      have hlt2 : k - old.size < c.size := by
        rw [← h1.1]
        rcases Nat.lt_or_ge (k - old.size) (ys.flatMap AV.cells).length with h | h
        · exact h
        · rw [List.getElem?_eq_none h] at hk; cases hk
      refine ⟨c[k - old.size], ?_, (h1.2 _ x _ hk (Array.getElem?_eq_getElem hlt2)).keep hkd (fun _ _ h => h)⟩
      rw [Array.append_assoc, Array.getElem?_append_right (by omega), Array.getElem?_append_left hlt2]
      exact Array.getElem?_eq_getElem hlt2) (by
      simp only [Array.size_append, e1, e2, h3]
      rw [← Nat.add_mul, ← Nat.add_mul]
      exact Nat.mul_le_mul_right _ (by omega)) h2
  exact value_gives h4 hk g1 g2 (xd.trans g3)

theorem appQ_sound (r : Rep ι E w n h) {t t' ty : TypeId} {X : AV} {x y : Value} {src : Nat → TypeId → (List AV → Prop) → Prop} {K : AV → Nat → Hp → Prop} (hX : Rel E w ι X x)
    (hsrc : ∀ (e : TypeId) (i : TypeInfo) (K' : List AV → Prop), P.info? e = some i → src i.size e K' → ∃ ys, AppSrc P E w t' e i.size y ys ∧ K' ys) (hq : appQ P n h t X src K) :
    EGives P E w ι n h (do pure (.value (← Builtin.append_ #[t, t'] ty #[x, y]))) K := by
  unfold appQ at hq
  simp only [frcH_eq] at hq
  split at hq
  case h_2 => exact hq.elim
  rename_i e hu
  split at hq
  case h_2 => exact hq.elim
  rename_i i z hi hz
  split at hq
  case h_1 => exact hq.elim
  rename_i b hb
  have hb' : i.bytes = b + 1 := hb
  have hb0 : i.bytes ≠ 0 := by omega
  have hfirst0 : ∀ (a : Option Addr) (c : Nat) (w' : World), w'.heap = w.heap → (Builtin.firstCells i.size 0 (.slice a 0 c)).run P w' = .ok #[] w' := by
    intro a c w' _
    cases a with
    | none => simp [Builtin.firstCells]
    | some a =>
      have := run_loadCells_list (P := P) w' a [] (by simp)
      simpa [Builtin.firstCells] using this
  cases X <;> simp only at hq
  case nils =>
    cases hX
    obtain ⟨ys, hs, hq⟩ := hsrc e i _ hi hq
    obtain ⟨⟨hbd, hone⟩, hk⟩ := hq.elim
    rw [← hb'] at hbd
    by_cases h0 : ys.length = 0
    · obtain ⟨c, h1, h2⟩ := run_append_fit (ty := ty) (len := 0) (cap := 0) (base := none) hs hu hi rfl (by rw [h0, Nat.zero_mul]; omega) (by omega)
      obtain ⟨ι', g1, g2, g3⟩ := new_virtual r (Sub.refl) i.size none
      have he : ys = [] := List.length_eq_zero_iff.1 h0
      subst he
      exact value_gives (h2 w rfl) hk g1 g2 g3
    · exact app_grow r Sub.refl (zs := []) hs hu hi hb0 (by simpa using hbd) (by omega) (hfirst0 none 0) hz (by simp) rl_nil rfl (by simpa using hk)
  case os id sz off len =>
    cases hsz : Nat.beq sz i.size with
    | false => simp [hsz] at hq
    | true =>
      simp only [hsz] at hq
      have hsz := Nat.eq_of_beq_eq_true hsz
      cases hg : get h id with
      | none => simp [hg] at hq
      | some ob =>
        cases ob with
        | box _ => simp [hg] at hq
        | arr sz' xs =>
          simp only [hg] at hq
          cases hsz' : Nat.beq sz' i.size with
          | false => simp [hsz'] at hq
          | true =>
            simp only [hsz'] at hq
            have hsz' := Nat.eq_of_beq_eq_true hsz'
            subst hsz; subst hsz'
            obtain ⟨hle, hq⟩ := hq.elim
            obtain ⟨ys, hs, hq⟩ := hsrc e i _ hi hq
            obtain ⟨⟨hbd, hone⟩, hk⟩ := hq.elim
            rw [← hb'] at hbd
            have hzl : ((xs.drop off).take len).length = len := by simp; omega
            have hzz : ∀ x, x ∈ (xs.drop off).take len → x.cells.length = i.size := fun x hx => sz_of r hg x (List.mem_of_mem_drop (List.mem_of_mem_take hx))
            have hX' := hX
            cases hX with
            | osz _ _ _ a =>
              rw [List.take_zero] at hk
              by_cases h0 : ys.length = 0
              · obtain ⟨c, h1, h2⟩ := run_append_fit (ty := ty) (len := 0) (cap := 0) (base := a) hs hu hi rfl (by rw [h0, Nat.zero_mul]; omega) (by omega)
                have he : ys = [] := List.length_eq_zero_iff.1 h0
                subst he
                have hc : c = #[] := by have := h1.1; simp at this; exact Array.eq_empty_of_size_eq_zero this.symm
                subst hc
                obtain ⟨ι', g1, g2, g3⟩ := new_virtual r (Sub.del id) i.size a
                exact value_gives (h2 w (by cases a <;> simp [storeCells])) (by simpa using hk) g1 g2 g3
              · exact app_grow r (Sub.del id) (zs := []) hs hu hi hb0 (by simpa using hbd) (by omega) (hfirst0 a 0) hz (by simp) rl_nil rfl (by simpa using hk)
            | os _ _ _ _ b base cap hι hc hcell =>
              by_cases hfit : len + ys.length ≤ cap
              · obtain ⟨c, h1, h2⟩ := run_append_fit (ty := ty) (len := len) (cap := cap) (base := some ⟨b, base + off * i.size, none⟩) hs hu hi rfl
                  (by have : ys.length * i.bytes ≤ (len + ys.length + 96) * i.bytes := Nat.mul_le_mul_right _ (by omega)
                      omega) hfit
                have e2 : c.size = ys.length * i.size := by rw [← h1.1, flat_len hs.len]
                have hroom : ∀ j, j < c.toList.length → len * i.size + j < cap * i.size := by
                  intro j hj
                  have : (len + ys.length) * i.size ≤ cap * i.size := Nat.mul_le_mul_right _ hfit
                  rw [Nat.add_mul] at this
                  simp only [Array.length_toList] at hj
                  omega
                have hst := run_storeCells_cells (P := P) b (base + off * i.size + len * i.size) c.toList 0 w
                  (fun j hj => by have := (hcell _ (hroom j hj)).1; rwa [← Nat.add_assoc, show base + off * i.size + len * i.size + j = base + off * i.size + len * i.size + 0 + j by omega] at this)
                  (fun j hj => by have := (hcell _ (hroom j hj)).2; rwa [← Nat.add_assoc, show base + off * i.size + len * i.size + j = base + off * i.size + len * i.size + 0 + j by omega] at this)
                  (one_cells h1 hone)
                have hrun := h2 _ (by simp only [Addr.add_none]; exact hst)
                have hw := writes_setCells w b c.toList (base + off * i.size + len * i.size + 0)
                have hkw := hw.keeps (E := E) (r.own_E ⟨id, _, base, hg, hι⟩)
                have hn : id ≠ n := fun e => by subst e; rw [r.get_n] at hg; cases hg
                have hfr : ∀ a : Addr, (w.setCells b (base + off * i.size + len * i.size + 0) c.toList).frozen? a = w.frozen? a := fun a => hw.mark a
                have horel : ORel E (w.setCells b (base + off * i.size + len * i.size + 0) c.toList) (ι.set n (some (b, base + off * i.size))) n (.arr i.size ((xs.drop off).take len ++ ys)) := by
                  refine orel_arr (Inj.set_same _) (r.own_E ⟨id, _, base, hg, hι⟩) (by rw [hw.size]; exact own_ne r hg hι) (fun x hx => by
                    rcases List.mem_append.1 hx with hx | hx
                    · exact hzz x hx
                    · exact hs.len x hx) (fun k x hk => ?_)
                  rw [List.flatMap_append] at hk
                  have hol : (((xs.drop off).take len).flatMap AV.cells).length = len * i.size := by rw [flat_len hzz, hzl]
                  by_cases hlt : k < len * i.size
                  · rw [List.getElem?_append_left (by omega)] at hk
                    rcases (os_at r hg hX' hle).2 with h0 | ⟨b', o', e, hat⟩
                    · subst h0; omega
                    · cases e
                      obtain ⟨u, hu1, hu2⟩ := hat k x hk
                      refine ⟨u, ?_, ?_, hu2.keep hkw (fun _ _ h => h)⟩
                      · rw [World.cell?_setCells_out b c.toList _ w _ (fun _ _ => .inl (by show base + off * i.size + k < _; omega))]; exact hu1
                      · rw [hfr]
                        have : k < cap * i.size := by
                          have : len * i.size ≤ cap * i.size := Nat.mul_le_mul_right _ hc
                          omega
                        exact (hcell k this).2
                  · rw [List.getElem?_append_right (by omega), hol] at hk
                    have hlt2 : k - len * i.size < c.size := by
                      rw [← h1.1]
                      rcases Nat.lt_or_ge (k - len * i.size) (ys.flatMap AV.cells).length with h | h
                      · exact h
                      · rw [List.getElem?_eq_none h] at hk; cases hk
                    have hlt3 : k - len * i.size < c.toList.length := by simpa using hlt2
                    refine ⟨c[k - len * i.size], ?_, ?_, (h1.2 _ x _ hk (Array.getElem?_eq_getElem hlt2)).keep hkw (fun _ _ h => h)⟩
                    · have := World.cell?_setCells_in b c.toList (base + off * i.size + len * i.size + 0) w (fun j hj => by
                        have := (hcell _ (hroom j hj)).1
                        rwa [← Nat.add_assoc, show base + off * i.size + len * i.size + j = base + off * i.size + len * i.size + 0 + j by omega] at this) _ hlt3
                      rw [show base + off * i.size + len * i.size + 0 + (k - len * i.size) = base + off * i.size + k by omega] at this
                      rw [this]; simp
                    · rw [hfr]
                      have := (hcell _ (hroom _ hlt3)).2
                      rwa [show len * i.size + (k - len * i.size) = k by omega] at this
                obtain ⟨g1, g2⟩ := step_put r (Sub.del id) (m := n) (n1 := n + 1) hg hι (by rw [get_del, if_pos rfl]) hw (Inj.set_ext r _) (Inj.set_same _) (fun i hi => by simp [Inj.set, hi]) (by omega)
                  (fun i hi => by have : i ≠ n := by omega
                                  simp only [Inj.set, this, if_false]; exact r.fresh i (by omega)) horel ((r.sub (Sub.del id)).get_n)
                refine value_gives hrun hk ?_ g1 g2
                have := Rel.os (E := E) (w := w.setCells b (base + off * i.size + len * i.size + 0) c.toList) n i.size 0 (len + ys.length) b (base + off * i.size) cap (Inj.set_same (ι := ι) (n := n) _) hfit (fun j hj => by
                  have h2 := hcell j hj
                  refine ⟨hw.some _ (by simpa using h2.1), ?_⟩
                  rw [hfr]; simpa using h2.2)
                simpa using this
              · obtain ⟨_, _, _, hfc⟩ := src_os (P := P) r hg hX' hle
                obtain ⟨old, ho1, ho2⟩ := hfc len (by omega)
                rw [List.take_of_length_le (by omega)] at ho2
                exact app_grow r (Sub.del id) hs hu hi hb0 hbd (by omega) ho1 hz hzz ho2 hzl hk

end
end Go.Vm

set_option linter.unusedVariables false
set_option linter.unusedSimpArgs false
namespace Go.Vm

section
variable {P : Program} {E : Nat → Prop} {w : World} {ι : Inj} {n : Nat} {h : Hp}

theorem new_box (r : Rep ι E w n h) {cs : List AV} {c : Array Value} {t : TypeId} (hr : RL E w ι cs c) :
    ∃ ι' E', Rel E' (w.alloc (.cells c t)) ι' (.op n 0) (.pointer (some ⟨w.heap.size, 0, none⟩)) ∧ Rep ι' E' (w.alloc (.cells c t)) (n + 1) ((n, .box cs) :: h) ∧ Ext ι h E w ι' ((n, .box cs) :: h) E' (w.alloc (.cells c t)) := by
  have ho : ORel (Enew E w) (w.alloc (.cells c t)) (ι.set n (some (w.heap.size, 0))) n (.box cs) := by
    refine ⟨w.heap.size, 0, Inj.set_same _, .inr rfl, by simp, fun i x hx => ?_⟩
    have hlt : i < c.size := by
      rw [← hr.1]
      rcases Nat.lt_or_ge i cs.length with h | h
      · exact h
      · simp [h] at hx
    exact ⟨c[i], by simp, by simp, (hr.2 i x _ hx (Array.getElem?_eq_getElem hlt)).keep (keeps_alloc _) (Inj.set_ext r _)⟩
  obtain ⟨h1, h2⟩ := step_new r (.box cs) c t ho
  exact ⟨_, _, Rel.op n 0 _ _ (Inj.set_same _), h1, h2⟩

theorem alloc_sound (r : Rep ι E w n h) {t : TypeId} {z : List AV} (hz : zeroCells? P t = some z) {K : AV → Nat → Hp → Prop} (hk : K (.op n 0) (n + 1) ((n, .box z) :: h)) :
    EGives P E w ι n h (do pure (.value (← Instr.alloc t true (.tuple #[])))) K := by
  obtain ⟨zv, i, h1, h2, _, _⟩ := zeroCells_spec (E := E) (w := w) (ι := ι) hz
  obtain ⟨ι', E', g1, g2, g3⟩ := new_box r (t := t) h2
  exact value_gives (by simp [Instr.alloc, h1, newVar, newRow]) hk g1 g2 g3

theorem box_sound (r : Rep ι E w n h) {t : TypeId} {X : AV} {x : Value} (hX : Rel E w ι X x) (hs : X.solid = true) {K : AV → Nat → Hp → Prop} (hk : K (.op n 0) (n + 1) ((n, .box X.cells) :: h)) :
    EGives P E w ι n h (do pure (.value (← Instr.box t x))) K := by
  obtain ⟨ι', E', g1, g2, g3⟩ := new_box r (t := t) (rel_cells hX hs)
  exact value_gives (by simp [Instr.box, newVar, newRow]) hk g1 g2 g3

theorem setAt_get {cs vs : List AV} {off : Nat} (hle : off + vs.length ≤ cs.length) (i : Nat) : (setAt cs off vs)[i]? = if i < off then cs[i]? else if i < off + vs.length then vs[i - off]? else cs[i]? := by
  unfold setAt
  have ht : (cs.take off).length = off := by simp; omega
  by_cases hi : i < off
  · rw [if_pos hi, List.getElem?_append_left (by omega), List.getElem?_take, if_pos hi]
  · rw [if_neg hi, List.getElem?_append_right (by omega), ht]
    by_cases hj : i < off + vs.length
    · rw [if_pos hj, List.getElem?_append_left (by omega)]
    · rw [if_neg hj, List.getElem?_append_right (by omega), List.getElem?_drop]
      congr 1; omega
theorem setAt_len {cs vs : List AV} {off : Nat} (hle : off + vs.length ≤ cs.length) : (setAt cs off vs).length = cs.length := by
  unfold setAt; simp; omega

theorem all_one {xs : List AV} {c : Array Value} (h : RL E w ι xs c) (ho : xs.all AV.one = true) : ∀ v, v ∈ c.toList → v.oneCell' = true := by
  intro v hv
  obtain ⟨i, hi⟩ := List.mem_iff_getElem?.1 hv
  have hi' : c[i]? = some v := by simpa using hi
  have hlt : i < xs.length := by
    rw [h.1]
    rcases Nat.lt_or_ge i c.size with h' | h'
    · exact h'
    · simp [h'] at hi'
  have hr := h.2 i _ v (List.getElem?_eq_getElem hlt) hi'
  rw [List.all_eq_true] at ho
  exact rel_one hr (ho _ (List.getElem_mem hlt))

theorem store_run {t : TypeId} {m : Nat} {v : Value} {b o : Nat} (hm : tsz P t = some m) (hv : v.cells.size = m) (hc : ∀ j, j < m → (w.cell? ⟨b, o + j, none⟩).isSome = true ∧ w.frozen? ⟨b, o + j, none⟩ = false) (h1 : ∀ u, u ∈ v.cells.toList → u.oneCell' = true) :
    (Instr.storeAt t (.pointer (some ⟨b, o, none⟩)) v).run P w = .ok () (w.setCells b o v.cells.toList) := by
  have hst := run_storeCells_cells (P := P) b o v.cells.toList 0 w (fun j hj => by simpa using (hc j (by simpa [hv] using hj)).1) (fun j hj => by simpa using (hc j (by simpa [hv] using hj)).2) h1
  simp only [Nat.add_zero] at hst
  simp [Instr.storeAt, Instr.sureAddr, storeVar, tsz_spec (P := P) (w := w) hm, hv, hst]

theorem unit_gives {s : Sem Unit} {K : AV → Nat → Hp → Prop} {w' : World} {ι' : Inj} {E' : Nat → Prop} {n' : Nat} {h' : Hp} (hs : s.run P w = .ok () w') (hk : K .junk n' h') (hrep : Rep ι' E' w' n' h') (hx : Ext ι h E w ι' h' E' w') :
    EGives P E w ι n h (do s; pure .skip) K := ⟨.junk, undef, w', ι', E', n', h', .inr ⟨by simp [hs], rfl⟩, hk, .junk _, hrep, hx⟩

theorem store_box_sound (r : Rep ι E w n h) {t : TypeId} {m id off : Nat} {cs : List AV} {X : AV} {x a : Value} (hA : Rel E w ι (.op id off) a) (hX : Rel E w ι X x) (hg : get h id = some (.box cs)) (hm : tsz P t = some m) (hs : X.solid = true) (hl : X.cells.length = m)
    (hle : off + m ≤ cs.length) (ho : X.cells.all AV.one = true) {K : AV → Nat → Hp → Prop} (hk : K .junk n (set h id (.box (setAt cs off X.cells)))) : EGives P E w ι n h (do Instr.storeAt t a x; pure .skip) K := by
  cases hA with
  | op _ _ b base hι =>
    obtain ⟨b', base', h1, h2, h3, h4⟩ := r.obj id _ hg
    rw [hι] at h1; cases h1
    have hrl := rel_cells hX hs
    have hcell : ∀ i, i < cs.length → (w.cell? ⟨b, base + i, none⟩).isSome = true ∧ w.frozen? ⟨b, base + i, none⟩ = false := by
      intro i hi
      obtain ⟨u, hu1, hu2, _⟩ := h4 i _ (List.getElem?_eq_getElem hi)
      exact ⟨by simp [hu1], hu2⟩
    have hrun := store_run (P := P) (w := w) (b := b) (o := base + off) hm (by rw [← hrl.1]; exact hl) (fun j hj => by rw [Nat.add_assoc]; exact hcell _ (by omega)) (all_one hrl ho)
    have hw := writes_setCells w b x.cells.toList (base + off)
    have hkw := hw.keeps (E := E) h2
    have hxl : x.cells.toList.length = m := by rw [Array.length_toList, ← hrl.1, hl]
    have horel : ORel E (w.setCells b (base + off) x.cells.toList) ι id (.box (setAt cs off X.cells)) := by
      refine ⟨b, base, hι, h2, by rw [hw.size]; exact h3, fun i c hi => ?_⟩
      rw [setAt_get (by omega)] at hi
      by_cases hin : off ≤ i ∧ i < off + X.cells.length
      · rw [if_neg (by omega), if_pos hin.2] at hi
        have hlt : i - off < x.cells.toList.length := by omega
        have hlt' : i - off < x.cells.size := by simpa using hlt
        refine ⟨x.cells[i - off], ?_, ?_, (hrl.2 _ c _ hi (Array.getElem?_eq_getElem hlt')).keep hkw (fun _ _ h => h)⟩
        · have := World.cell?_setCells_in b x.cells.toList (base + off) w (fun j hj => by rw [Nat.add_assoc]; exact (hcell (off + j) (by omega)).1) _ hlt
          rw [show base + off + (i - off) = base + i by omega] at this
          rw [this]; simp
        · rw [hw.mark]; exact (hcell i (by omega)).2
      · have hi' : cs[i]? = some c := by
          by_cases h' : i < off
          · rwa [if_pos h'] at hi
          · rwa [if_neg h', if_neg (by omega)] at hi
        obtain ⟨u, hu1, hu2, hu3⟩ := h4 i c hi'
        refine ⟨u, ?_, by rw [hw.mark]; exact hu2, hu3.keep hkw (fun _ _ h => h)⟩
        rw [World.cell?_setCells_out b _ _ w _ (fun _ _ => by show base + i < base + off ∨ base + off + _ ≤ base + i; omega)]
        exact hu1
    obtain ⟨g1, g2⟩ := step_put r (Sub.del id) (m := id) (n1 := n) hg hι (by rw [get_del, if_pos rfl]) hw (fun _ _ h => h) hι (fun _ _ => rfl) (Nat.le_refl _) r.fresh horel (by rw [get_del, if_pos rfl])
    exact unit_gives hrun hk g1 g2

/-- an element is written: some of its cells -/
theorem store_arr_sound (r : Rep ι E w n h) {t : TypeId} {m id sz i off : Nat} {xs : List AV} {X e e' : AV} {x a : Value} (hA : Rel E w ι (.ep id sz i off) a) (hX : Rel E w ι X x) (hg : get h id = some (.arr sz xs)) (hm : tsz P t = some m) (hs : X.solid = true) (hl : X.cells.length = m)
    (he : xs[i]? = some e) (hle : off + m ≤ e.cells.length) (ho : X.cells.all AV.pure1 = true) (he' : e'.cells = setAt e.cells off X.cells) {K : AV → Nat → Hp → Prop} (hk : K .junk n (set h id (.arr sz (xs.set i e')))) : EGives P E w ι n h (do Instr.storeAt t a x; pure .skip) K := by
  cases hA with
  | ep _ _ _ _ b base hι =>
    have hz := sz_of r hg
    rcases r.obj id _ hg with ⟨h1, _⟩ | ⟨b', base', h1, h2, h3, h4, h5⟩
    · rw [hι] at h1; cases h1
    rw [hι] at h1; cases h1
    have hrl := rel_cells hX hs
    have hei := h4 i e he
    have hcell : ∀ j, j < sz → (w.cell? ⟨b, base + i * sz + j, none⟩).isSome = true ∧ w.frozen? ⟨b, base + i * sz + j, none⟩ = false := by
      intro j hj
      obtain ⟨u, hu1, hu2, _⟩ := h5 i e j _ he (List.getElem?_eq_getElem (by omega))
      exact ⟨by simp [hu1], hu2⟩
    have ho1 : X.cells.all AV.one = true := by
      rw [List.all_eq_true] at ho ⊢
      exact fun c hc => AV.one_of_pure1 (ho c hc)
    have hrun := store_run (P := P) (w := w) (b := b) (o := base + i * sz + off) hm (by rw [← hrl.1]; exact hl) (fun j hj => by rw [Nat.add_assoc]; exact hcell _ (by omega)) (all_one hrl ho1)
    have hw := writes_setCells w b x.cells.toList (base + i * sz + off)
    have hkw := hw.keeps (E := E) h2
    have hxl : x.cells.toList.length = m := by rw [Array.length_toList, ← hrl.1, hl]
    have hel : e'.cells.length = sz := by rw [he', setAt_len (by omega)]; exact hei
    have horel : ORel E (w.setCells b (base + i * sz + off) x.cells.toList) ι id (.arr sz (xs.set i e')) := by
      refine .inr ⟨b, base, hι, h2, by rw [hw.size]; exact h3, fun q y hq => ?_, fun q y j c hq hj => ?_⟩
      · rw [List.getElem?_set] at hq
        split at hq
        · split at hq
          · cases hq; exact hel
          · cases hq
        · exact h4 q y hq
      · rw [List.getElem?_set] at hq
        by_cases hqi : i = q
        · subst hqi
          rw [if_pos rfl] at hq
          split at hq
          · cases hq
            rw [he', setAt_get (by omega)] at hj
            by_cases hin : off ≤ j ∧ j < off + X.cells.length
            · rw [if_neg (by omega), if_pos hin.2] at hj
              have hlt : j - off < x.cells.toList.length := by omega
              have hlt' : j - off < x.cells.size := by simpa using hlt
              have hpc : c.pure1 = true := by rw [List.all_eq_true] at ho; exact ho c (List.mem_of_getElem? hj)
              refine ⟨x.cells[j - off], ?_, ?_, ((hrl.2 _ c _ hj (Array.getElem?_eq_getElem hlt')).pure1 hpc).keep hkw (fun _ _ h => h)⟩
              · have := World.cell?_setCells_in b x.cells.toList (base + i * sz + off) w (fun k hk => by rw [Nat.add_assoc]; exact (hcell (off + k) (by omega)).1) _ hlt
                rw [show base + i * sz + off + (j - off) = base + i * sz + j by omega] at this
                rw [this]; simp
              · rw [hw.mark]; exact (hcell j (by omega)).2
            · have hj' : e.cells[j]? = some c := by
                by_cases h' : j < off
                · rwa [if_pos h'] at hj
                · rwa [if_neg h', if_neg (by omega)] at hj
              obtain ⟨u, hu1, hu2, hu3⟩ := h5 i e j c he hj'
              refine ⟨u, ?_, by rw [hw.mark]; exact hu2, hu3.keep hkw (fun _ _ h => h)⟩
              rw [World.cell?_setCells_out b _ _ w _ (fun _ _ => by show base + i * sz + j < base + i * sz + off ∨ base + i * sz + off + _ ≤ base + i * sz + j; omega)]
              exact hu1
          · cases hq
        · rw [if_neg hqi] at hq
          have hjl : j < sz := by
            have := h4 q y hq
            rcases Nat.lt_or_ge j y.cells.length with h | h
            · omega
            · simp [h] at hj
          obtain ⟨u, hu1, hu2, hu3⟩ := h5 q y j c hq hj
          refine ⟨u, ?_, by rw [hw.mark]; exact hu2, hu3.keep hkw (fun _ _ h => h)⟩
          rw [World.cell?_setCells_out b _ _ w _ (fun _ _ => by
            show base + q * sz + j < base + i * sz + off ∨ base + i * sz + off + _ ≤ base + q * sz + j
            rcases Nat.lt_or_gt_of_ne hqi with h | h
            · right
              have : (i + 1) * sz ≤ q * sz := Nat.mul_le_mul_right _ h
              rw [Nat.add_mul] at this; omega
            · left
              have : (q + 1) * sz ≤ i * sz := Nat.mul_le_mul_right _ h
              rw [Nat.add_mul] at this; omega)]
          exact hu1
    obtain ⟨g1, g2⟩ := step_put r (Sub.del id) (m := id) (n1 := n) hg hι (by rw [get_del, if_pos rfl]) hw (fun _ _ h => h) hι (fun _ _ => rfl) (Nat.le_refl _) r.fresh horel (by rw [get_del, if_pos rfl])
    exact unit_gives hrun hk g1 g2

theorem fill_full {sz : Nat} : ∀ (parts : List (Nat × Value)) (k : Nat) (c : Array Value), (∀ (j : Nat) p, parts[j]? = some p → p.1 = k + j ∧ p.2.cells.size = sz) → (k + parts.length) * sz ≤ c.size →
    ∃ c', Instr.fill (fun i => some (i * sz, sz)) c parts = some c' ∧ c'.size = c.size ∧ (∀ q, q < k * sz → c'[q]? = c[q]?) ∧ ∀ (j : Nat) p q, parts[j]? = some p → q < sz → c'[(k + j) * sz + q]? = p.2.cells[q]?
  | [], k, c, _, _ => ⟨c, rfl, rfl, fun _ _ => rfl, fun j p q h => by simp at h⟩
  | (i, v) :: parts, k, c, hp, hc => by
    obtain ⟨h1, h2⟩ := hp 0 _ rfl
    simp only [Nat.add_zero] at h1 h2
    subst h1
    have hlen : (i + 1) * sz ≤ (i + (parts.length + 1)) * sz := Nat.mul_le_mul_right _ (by omega)
    simp only [List.length_cons] at hc
    rw [Nat.add_mul, Nat.one_mul] at hlen
    obtain ⟨l, hv⟩ : ∃ l : List Value, v.cells = ⟨l⟩ := ⟨v.cells.toList, by simp⟩
    have hf := fold_set (i * sz) l 0 c
    have he : (v.cells.zipIdx.foldl (fun cs (c, j) => cs.setIfInBounds (i * sz + j) c) c) = ((l.zipIdx 0).foldl (fun cs (p : Value × Nat) => cs.setIfInBounds (i * sz + p.2) p.1) c) := by
      rw [hv, ← Array.foldl_toList]; simp only [Array.toList_zipIdx]
    have hll : l.length = sz := by rw [hv] at h2; exact h2
    obtain ⟨c', g1, g2, g3, g4⟩ := fill_full parts (i + 1) _ (fun j p hj => by
      obtain ⟨a1, a2⟩ := hp (j + 1) p (by simpa using hj)
      exact ⟨by omega, a2⟩) (by rw [hf.1]; rw [show i + 1 + parts.length = i + (parts.length + 1) by omega]; exact hc)
    refine ⟨c', ?_, by rw [g2, hf.1], fun q hq => ?_, fun j p q hj hq => ?_⟩
    · simp only [Instr.fill]
      rw [if_neg]
      · rw [he]; exact g1
      · simp only [Bool.or_eq_true, decide_eq_true_eq, not_or]
        simp only [h2]
        simp
        omega
    · rw [g3 q (by rw [Nat.add_mul]; omega), hf.2 q, if_neg (by omega)]
    · cases j with
      | zero =>
        simp only [List.getElem?_cons_zero, Option.some.injEq] at hj
        subst hj
        simp only [Nat.add_zero]
        rw [g3 _ (by rw [Nat.add_mul]; omega), hf.2, if_pos ⟨by omega, by omega, by omega⟩]
        simp only [hv]
        simp
      | succ j =>
        have := g4 j p q (by simpa using hj) hq
        rwa [show i + 1 + j = i + (j + 1) by omega] at this

theorem fullParts_spec {sz : Nat} : ∀ {parts : List (Nat × AV)} {k : Nat}, fullParts sz k parts = true → ∀ (j : Nat) p, parts[j]? = some p → p.1 = k + j ∧ p.2.cells.length = sz ∧ p.2.pure = true
  | [], k, _, j, p, hj => by simp at hj
  | (i, x) :: r, k, h, j, p, hj => by
    simp only [fullParts, Bool.and_eq_true] at h
    obtain ⟨h1, h2, h3, h4⟩ := h
    cases j with
    | zero =>
      simp only [List.getElem?_cons_zero, Option.some.injEq] at hj
      subst hj
      exact ⟨Nat.eq_of_beq_eq_true h1, Nat.eq_of_beq_eq_true h2, h3⟩
    | succ j =>
      obtain ⟨a, b⟩ := fullParts_spec h4 j p (by simpa using hj)
      exact ⟨by omega, b⟩

theorem buildSlice_sound (r : Rep ι E w n h) {ev : Operand → AV} {ρ : Operand → Value} (hev : ∀ x, Rel E w ι (ev x) (ρ x)) {t e : TypeId} {len sz : Nat} {parts : Array (Nat × Operand)} {z : AV} (hu : P.underlying t = some (.slice e)) (hsz : tsz P e = some sz) (hz : zeroEl P e = some z)
    (hl : parts.size = len) (hle : len * sz ≤ 16777216) (hf : fullParts sz 0 (parts.toList.map fun p => (p.1, ev p.2)) = true) {K : AV → Nat → Hp → Prop} (hk : K (.os n sz 0 len) (n + 1) ((n, .arr sz (parts.toList.map fun p => ev p.2)) :: h)) :
    EGives P E w ι n h (do pure (.value (← Instr.buildSlice t len (parts.map fun (i, x) => (i, ρ x))))) K := by
  obtain ⟨zv, i, sz', z1, z2, z3, z4, z5, z6⟩ := zeroEl_spec (E := E) (w := w) hz
  have hsz' : sz' = sz := by unfold tsz at hsz; simp [z2] at hsz; omega
  subst hsz'
  have hso := tsz_spec (P := P) (w := w) hsz
  let vals : List (Nat × Value) := (parts.map fun (i, x) => (i, ρ x)).toList
  have hvl : vals.length = len := by simp [vals, hl]
  have hpv : ∀ (j : Nat) p, vals[j]? = some p → ∃ o, parts.toList[j]? = some (p.1, o) ∧ p.2 = ρ o := by
    intro j p hj
    simp only [vals, Array.toList_map, List.getElem?_map, Option.map_eq_some_iff] at hj
    obtain ⟨q, hq, rfl⟩ := hj
    exact ⟨q.2, hq, rfl⟩
  have hspec := fullParts_spec hf
  have hcell : ∀ (j : Nat) p, vals[j]? = some p → p.1 = 0 + j ∧ p.2.cells.size = sz' := by
    intro j p hj
    obtain ⟨o, ho, hp⟩ := hpv j p hj
    obtain ⟨a1, a2, a3⟩ := hspec j (p.1, ev o) (by simp [ho])
    refine ⟨a1, ?_⟩
    rw [hp, ← (rel_cells (hev o) (AV.solid_of_pure a3)).1]; exact a2
  let c0 : Array Value := (Array.range (len * sz')).map (zv.cells[· % zv.cells.size]!)
  have hc0 : c0.size = len * sz' := by simp [c0]
  let c1 : Array Value := (Array.range (len * sz')).map ((if len * sz' = 0 then #[] else zv.cells)[· % (if len * sz' = 0 then #[] else zv.cells).size]!)
  obtain ⟨c', g1, g2, g3, g4⟩ := fill_full vals 0 c1 hcell (by simp [c1, hvl])
  have hrun : (Instr.buildSlice t len (parts.map fun (i, x) => (i, ρ x))).run P w = .ok (.slice (some ⟨w.heap.size, 0, none⟩) len len) (w.alloc (.cells c' e)) := by
    have hle' : ¬ (len * sz' > 2 ^ 24) := by omega
    simp only [Instr.buildSlice, Sem.run_bind, run_underlying hu, Result.andThen_ok, hso]
    rw [if_neg hle']
    by_cases h0 : len * sz' = 0
    · rw [if_pos h0]
      simp only [c1, h0, if_true] at g1
      simp only [Sem.run_bind, Sem.run_pure, Result.andThen_ok, h0]
      simp only [vals] at g1
      rw [g1]
      simp [newRow]
    · rw [if_neg h0]
      simp only [c1, h0, if_false] at g1
      simp only [Sem.run_bind, Sem.run_pure, Result.andThen_ok, z1]
      simp only [vals] at g1
      rw [g1]
      simp [newRow]
  have hxs : ∀ (j : Nat) x, (parts.toList.map fun p => ev p.2)[j]? = some x → ∃ o, (∃ i, parts.toList[j]? = some (i, o)) ∧ x = ev o ∧ x.cells.length = sz' ∧ x.pure = true := by
    intro j x hx
    simp only [List.getElem?_map, Option.map_eq_some_iff] at hx
    obtain ⟨q, hq, rfl⟩ := hx
    obtain ⟨a1, a2, a3⟩ := hspec j (q.1, ev q.2) (by simp [hq])
    exact ⟨q.2, ⟨q.1, hq⟩, rfl, a2, a3⟩
  have hz' : ∀ x, x ∈ (parts.toList.map fun p => ev p.2) → x.cells.length = sz' := by
    intro x hx
    obtain ⟨j, hj⟩ := List.mem_iff_getElem?.1 hx
    obtain ⟨o, _, _, h2, _⟩ := hxs j x hj
    exact h2
  obtain ⟨ι', E', k1, k2, k3⟩ := new_arr r Sub.refl (sz := sz') (xs := parts.toList.map fun p => ev p.2) (c := c') (t := e) (cap := len) (len := len) hz' (fun k y hky => by
    obtain ⟨j, x, q, a1, a2, a3, rfl⟩ := flat_get hz' hky
    obtain ⟨o, ⟨i, ho⟩, rfl, b2, b3⟩ := hxs j _ a1
    have hv : vals[j]? = some (i, ρ o) := by
      simp only [vals, Array.toList_map, List.getElem?_map, ho, Option.map_some]
    have := g4 j _ q hv a3
    rw [Nat.zero_add] at this
    have hrl := rel_cells (hev o) (AV.solid_of_pure b3)
    have hlt : q < (ρ o).cells.size := by rw [← hrl.1, b2]; exact a3
    refine ⟨(ρ o).cells[q], by rw [this]; exact Array.getElem?_eq_getElem hlt, (hrl.2 q y _ a2 (Array.getElem?_eq_getElem hlt)).pure1 ?_⟩
    exact AV.pure_cells b3 y (List.mem_of_getElem? a2)) (by rw [g2]; simp [c1]) (Nat.le_refl _)
  exact value_gives hrun hk k1 k2 k3

theorem makeSlice_sound (r : Rep ι E w n h) {t e : TypeId} {a b : Nat} {k k' : IntKind} {i : TypeInfo} {z : AV} (hu : P.underlying t = some (.slice e)) (hi : P.info? e = some i) (hz : zeroEl P e = some z) (ha : a < 140737488355329) (hb : b < 140737488355329)
    (hab : a ≤ b) (hbb : i.bytes * b ≤ 140737488355328) {K : AV → Nat → Hp → Prop} (hk : K (.os n i.size 0 a) (n + 1) ((n, .arr i.size (List.replicate b z)) :: h)) :
    EGives P E w ι n h (do pure (.value (← Instr.makeSlice t (.int k (a : Int)) (.int k' (b : Int))))) K := by
  obtain ⟨zv, i', sz', z1, z2, z3, z4, z5, z6⟩ := zeroEl_spec (E := E) (w := w) hz
  rw [hi] at z2; cases z2
  subst z3
  have hti : (typeInfo e).run P w = .ok i w := by simp [typeInfo, hi]
  have hso : (sizeOf e).run P w = .ok i.size w := by simp [sizeOf, typeInfo, hi]
  have wa := wrap_small ha
  have wb := wrap_small hb
  have hm : ∀ q : Nat, q ≤ b → ¬ (281474976710656 < (i.bytes : Int) * (q : Int)) := by
    intro q hq
    rw [← Int.natCast_mul]
    have : i.bytes * q ≤ i.bytes * b := Nat.mul_le_mul_left _ hq
    omega
  have e1 : ¬ ((a : Int) < 0) := by omega
  have e2 : ¬ ((b : Int) < 0) := by omega
  have e3 : ¬ ((b : Int) < (a : Int)) := by omega
  let c : Array Value := (Array.range (b * i.size)).map (zv.cells[· % zv.cells.size]!)
  have hrun : (Instr.makeSlice t (.int k (a : Int)) (.int k' (b : Int))).run P w = .ok (.slice (some ⟨w.heap.size, 0, none⟩) a b) (w.alloc (.cells c e)) := by
    by_cases h0 : b * i.size = 0
    · have hc : c = #[] := by apply Array.eq_empty_of_size_eq_zero; simp [c, h0]
      simp [Instr.makeSlice, run_underlying hu, asInt, asIntOf, hti, wa, wb, hm b (Nat.le_refl _), e1, e2, e3, hso, h0, newRow, hc]
      congr 2
      apply Array.eq_empty_of_size_eq_zero; simp
    · simp [Instr.makeSlice, run_underlying hu, asInt, asIntOf, hti, wa, wb, hm b (Nat.le_refl _), e1, e2, e3, hso, h0, newRow, z1, c]
  have hz' : ∀ x, x ∈ List.replicate b z → x.cells.length = i.size := fun x hx => by rw [List.eq_of_mem_replicate hx]; exact z5
  have hcc : c = Builtin.zeroCells zv.cells b := by simp only [c, Builtin.zeroCells, z6]
  obtain ⟨ι', E', k1, k2, k3⟩ := new_arr r Sub.refl (sz := i.size) (xs := List.replicate b z) (c := c) (t := e) (cap := b) (len := a) hz' (fun q y hq => by rw [hcc]; exact zeroCells_get z6 z4 hq) (by simp [c]) hab
  exact value_gives hrun hk k1 k2 k3

theorem setAt_flat {sz : Nat} {xs zs : List AV} (hz : ∀ x, x ∈ xs → x.cells.length = sz) (hz' : ∀ x, x ∈ zs → x.cells.length = sz) {off : Nat} (hle : off + zs.length ≤ xs.length) {k : Nat} {y : AV}
    (hk : ((xs.take off ++ (zs ++ xs.drop (off + zs.length))).flatMap AV.cells)[k]? = some y) :
    (off * sz ≤ k ∧ k < (off + zs.length) * sz ∧ (zs.flatMap AV.cells)[k - off * sz]? = some y) ∨ ((k < off * sz ∨ (off + zs.length) * sz ≤ k) ∧ (xs.flatMap AV.cells)[k]? = some y) := by
  have hall : ∀ x, x ∈ (xs.take off ++ (zs ++ xs.drop (off + zs.length))) → x.cells.length = sz := by
    intro x hx
    simp only [List.mem_append] at hx
    rcases hx with hx | hx | hx
    · exact hz x (List.mem_of_mem_take hx)
    · exact hz' x hx
    · exact hz x (List.mem_of_mem_drop hx)
  obtain ⟨i, x, j, h1, h2, h3, rfl⟩ := flat_get hall hk
  have ht : (xs.take off).length = off := by simp; omega
  by_cases hi : i < off
  · rw [List.getElem?_append_left (by omega), List.getElem?_take, if_pos hi] at h1
    refine .inr ⟨.inl ?_, flat_at hz h1 h2⟩
    have : (i + 1) * sz ≤ off * sz := Nat.mul_le_mul_right _ hi
    rw [Nat.add_mul] at this; omega
  · rw [List.getElem?_append_right (by omega), ht] at h1
    by_cases hj : i - off < zs.length
    · rw [List.getElem?_append_left hj] at h1
      have hm : off * sz ≤ i * sz := Nat.mul_le_mul_right _ (by omega)
      have hm2 : (i + 1) * sz ≤ (off + zs.length) * sz := Nat.mul_le_mul_right _ (by omega)
      rw [Nat.add_mul, Nat.one_mul] at hm2
      refine .inl ⟨by omega, by omega, ?_⟩
      have := flat_at hz' h1 h2
      rw [Nat.sub_mul] at this
      rw [← this]; congr 1; omega
    · rw [List.getElem?_append_right (by omega), List.getElem?_drop] at h1
      rw [show off + zs.length + (i - off - zs.length) = i by omega] at h1
      refine .inr ⟨.inr ?_, flat_at hz h1 h2⟩
      have : (off + zs.length) * sz ≤ i * sz := Nat.mul_le_mul_right _ (by omega)
      omega

theorem copy_sound (r : Rep ι E w n h) {t t' ty e : TypeId} {id sz off len : Nat} {xs ys : List AV} {x y : Value} (hX : Rel E w ι (.os id sz off len) x) (hu : P.underlying t = some (.slice e)) (hsz : tsz P e = some sz) (hg : get h id = some (.arr sz xs)) (hs : Src P E w sz y ys)
    (hle : off + len ≤ xs.length) (hone : ∀ x, x ∈ ys → x.cells.all AV.one = true) {K : AV → Nat → Hp → Prop}
    (hk : K (.v (.int .i64 (min ys.length len : Nat))) n (set h id (.arr sz (xs.take off ++ (ys.take len ++ xs.drop (off + min ys.length len)))))) (ats : Array TypeId) (ha0 : ats[0]? = some t) :
    EGives P E w ι n h (do pure (.value (← Builtin.copy_ ats ty #[x, y]))) K := by
  obtain ⟨s1, s2, _, s4⟩ := hs
  have hso := tsz_spec (P := P) (w := w) hsz
  have hz := sz_of r hg
  let m := min ys.length len
  obtain ⟨c, c1, c2⟩ := s4 m (Nat.min_le_left _ _)
  have c1 := c1 w rfl
  have htake : ys.take len = ys.take m := by
    by_cases h : ys.length ≤ len
    · rw [List.take_of_length_le h, List.take_of_length_le (by simp [m, h])]
    · rw [show m = len by simp only [m]; omega]
  have hcs : c.size = m * sz := by
    rw [← c2.1, flat_len (fun x hx => s2 x (List.mem_of_mem_take hx))]
    congr 1; rw [List.length_take]; exact Nat.min_eq_left (Nat.min_le_left _ _)
  have hlen0 : ∀ a c', x = .slice a len c' → (Builtin.copy_ ats ty #[x, y]).run P w = (match a with
      | some a => ((storeCells a c.toList).run P w).andThen fun _ w' => .ok (.int .i64 (m : Int)) w'
      | none => .ok (.int .i64 (m : Int)) w) := by
    intro a c' hx
    subst hx
    cases a with
    | none => simp [Builtin.copy_, ha0, run_underlying hu, s1, hso, goInt, m]; rw [show min ys.length len = m from rfl, c1]; rfl
    | some a => simp [Builtin.copy_, ha0, run_underlying hu, s1, hso, goInt, m]; rw [show min ys.length len = m from rfl, c1]; rfl
  have hk' : K (.v (.int .i64 (m : Int))) n (set h id (.arr sz (xs.take off ++ (ys.take m ++ xs.drop (off + m))))) := by rw [htake] at hk; exact hk
  have hX' := hX
  cases hX with
  | osz _ _ _ a =>
    have hm : m = 0 := by simp [m]
    have hc : c = #[] := Array.eq_empty_of_size_eq_zero (by rw [hcs, hm, Nat.zero_mul])
    subst hc
    have hxs : (xs.take off ++ (ys.take m ++ xs.drop (off + m))) = xs := by rw [hm]; simp
    rw [hxs] at hk'
    have hs' : Sub (set h id (.arr sz xs)) h := fun i o hi => by
      unfold set at hi
      rw [get_cons] at hi
      split at hi
      · rename_i e; subst e; cases hi; exact hg
      · exact Sub.del id i o hi
    exact value_gives (by rw [hlen0 a 0 rfl]; cases a <;> simp [storeCells]) hk' (.v _) (r.sub hs') (Ext.sub hs')
  | os _ _ _ _ b base cap hι hc hcell =>
    rcases r.obj id _ hg with ⟨h1, _⟩ | ⟨b', base', h1, h2, h3, h4, h5⟩
    · rw [hι] at h1; cases h1
    rw [hι] at h1; cases h1
    have hroom : ∀ j, j < c.toList.length → j < cap * sz := by
      intro j hj
      have : m * sz ≤ cap * sz := Nat.mul_le_mul_right _ (Nat.le_trans (Nat.min_le_right _ _) hc)
      simp only [Array.length_toList] at hj
      omega
    have hone' : ∀ x, x ∈ ys.take m → x.cells.all AV.one = true := fun x hx => hone x (List.mem_of_mem_take hx)
    have hst := run_storeCells_cells (P := P) b (base + off * sz) c.toList 0 w (fun j hj => by simpa using (hcell j (hroom j hj)).1) (fun j hj => by simpa using (hcell j (hroom j hj)).2) (one_cells c2 hone')
    simp only [Nat.add_zero] at hst
    have hw := writes_setCells w b c.toList (base + off * sz)
    have hkw := hw.keeps (E := E) h2
    have hz2 : ∀ x, x ∈ ys.take m → x.cells.length = sz := fun x hx => s2 x (List.mem_of_mem_take hx)
    have hml : (ys.take m).length = m := by rw [List.length_take]; exact Nat.min_eq_left (Nat.min_le_left _ _)
    have hmle : off + (ys.take m).length ≤ xs.length := by rw [hml]; have : m ≤ len := Nat.min_le_right _ _; omega
    have horel : ORel E (w.setCells b (base + off * sz) c.toList) ι id (.arr sz (xs.take off ++ (ys.take m ++ xs.drop (off + m)))) := by
      refine orel_arr hι h2 (by rw [hw.size]; exact h3) (fun x hx => ?_) (fun k y hky => ?_)
      · simp only [List.mem_append] at hx
        rcases hx with hx | hx | hx
        · exact hz x (List.mem_of_mem_take hx)
        · exact hz2 x hx
        · exact hz x (List.mem_of_mem_drop hx)
      · have hky' := setAt_flat hz hz2 hmle (by rw [hml]; exact hky)
        rcases hky' with ⟨k1, k2, k3⟩ | ⟨k1, k2⟩
        · have hlt : k - off * sz < c.size := by
            rw [← c2.1]
            rcases Nat.lt_or_ge (k - off * sz) ((ys.take m).flatMap AV.cells).length with h | h
            · exact h
            · rw [List.getElem?_eq_none h] at k3; cases k3
          have hlt' : k - off * sz < c.toList.length := by simpa using hlt
          refine ⟨c[k - off * sz], ?_, ?_, (c2.2 _ y _ k3 (Array.getElem?_eq_getElem hlt)).keep hkw (fun _ _ h => h)⟩
          · have := World.cell?_setCells_in b c.toList (base + off * sz) w (fun j hj => (hcell j (hroom j hj)).1) _ hlt'
            rw [show base + off * sz + (k - off * sz) = base + k by omega] at this
            rw [this]; simp
          · rw [hw.mark]
            have := (hcell _ (hroom _ hlt')).2
            rwa [show base + off * sz + (k - off * sz) = base + k by omega] at this
        · obtain ⟨i, x, j, a1, a2, a3, rfl⟩ := flat_get hz k2
          obtain ⟨u, hu1, hu2, hu3⟩ := h5 i x j y a1 a2
          rw [Nat.add_assoc] at hu1 hu2
          refine ⟨u, ?_, by rw [hw.mark]; exact hu2, hu3.keep hkw (fun _ _ h => h)⟩
          rw [World.cell?_setCells_out b _ _ w _ (fun _ _ => by
            show base + (i * sz + j) < base + off * sz ∨ base + off * sz + c.toList.length ≤ base + (i * sz + j)
            rw [Array.length_toList, hcs]
            rw [hml, Nat.add_mul] at k1
            omega)]
          exact hu1
    obtain ⟨g1, g2⟩ := step_put r (Sub.del id) (m := id) (n1 := n) hg hι (by rw [get_del, if_pos rfl]) hw (fun _ _ h => h) hι (fun _ _ => rfl) (Nat.le_refl _) r.fresh horel (by rw [get_del, if_pos rfl])
    exact value_gives (by rw [hlen0 _ cap rfl]; simp [hst]) hk' (.v _) g1 g2

theorem EGives.mono {s : Sem Next} {K K' : AV → Nat → Hp → Prop} (h1 : EGives P E w ι n h s K) (hk : ∀ x n h, K x n h → K' x n h) : EGives P E w ι n h s K' := by
  obtain ⟨x, v, w', ι', E', n', h', a, b, c⟩ := h1
  exact ⟨x, v, w', ι', E', n', h', a, hk _ _ _ b, c⟩

theorem cap_run {ats : Array TypeId} {ty t e : TypeId} {a : Option Addr} {l c : Nat} {args : Array Value} (h0 : ats[0]? = some t) (hu : P.underlying t = some (.slice e)) (ha : args[0]? = some (.slice a l c)) : (Builtin.cap_ ats ty args).run P w = .ok (.int .i64 (c : Int)) w := by
  simp [Builtin.cap_, h0, ha, run_underlying hu, goInt]

theorem arr1 {α : Type} {a : Array α} {x : α} (h : a.toList = [x]) : a = #[x] := by
  apply Array.toList_inj.1; simp [h]
theorem arr2 {α : Type} {a : Array α} {x y : α} (h : a.toList = [x, y]) : a = #[x, y] := by
  apply Array.toList_inj.1; simp [h]

theorem eop_sound (r : Rep ι E w n h) {ev : Operand → AV} {ρ : Operand → Value} (hev : ∀ x, Rel E w ι (ev x) (ρ x)) {o : Oper} {K : AV → Nat → Hp → Prop} (hq : eop P n h ev o.op K) : EGives P E w ι n h (execOp ρ o) K := by
  have cast : ∀ {s s' : Sem Next}, EGives P E w ι n h s K → s' = s → EGives P E w ι n h s' K := fun h e => e ▸ h
  unfold eop at hq
  simp only [frcH_eq, frcL_eq, frcDL_eq, frc_eq] at hq
  split at hq <;> rename_i ho <;> try exact hq.elim
  · split at hq
    · rename_i z hz
      exact cast (alloc_sound r hz hq) (by simp only [execOp, ho])
    · exact hq.elim
  · rename_i t x
    split at hq
    · rename_i hs
      exact cast (box_sound (t := t) r (rel_nbA (hev x)) hs hq) (by simp only [execOp, ho])
    · exact hq.elim
  · rename_i t len parts
    split at hq
    case h_2 => exact hq.elim
    rename_i e hu
    split at hq
    case h_2 => exact hq.elim
    rename_i sz z hsz hz
    split at hq
    case h_2 => exact hq.elim
    rename_i hb
    simp only [Bool.and_eq_true] at hb
    obtain ⟨h1, h2, h3⟩ := hb
    exact cast (buildSlice_sound (ev := fun x => nbA (ev x)) r (fun x => rel_nbA (hev x)) hu hsz hz (Nat.eq_of_beq_eq_true h1) (Nat.le_of_ble_eq_true h2) h3 hq) (by simp only [execOp, ho])
  · rename_i t a x
    split at hq
    case h_1 => exact hq.elim
    rename_i m hm
    split at hq
    case h_1 => exact hq.elim
    rename_i hb
    simp only [Bool.and_eq_true] at hb
    obtain ⟨hs, hl⟩ := hb
    have hl := Nat.eq_of_beq_eq_true hl
    have hA := hev a
    have hX := rel_nbA (hev x)
    split at hq
    case h_3 => exact hq.elim
    · rename_i id off he
      rw [he] at hA
      split at hq
      case h_2 => exact hq.elim
      rename_i cs hg
      split at hq
      case h_2 => exact hq.elim
      rename_i hb
      simp only [Bool.and_eq_true] at hb
      exact cast (store_box_sound r hA hX hg hm hs hl (Nat.le_of_ble_eq_true hb.1) hb.2 hq) (by simp only [execOp, ho])
    · rename_i id sz i off he
      rw [he] at hA
      split at hq
      case h_2 => exact hq.elim
      rename_i sz' xs hg
      split at hq
      case h_2 => exact hq.elim
      rename_i hb
      simp only [Bool.and_eq_true] at hb
      obtain ⟨hb1, hb2⟩ := hb
      have hb1 := Nat.eq_of_beq_eq_true hb1
      subst hb1
      obtain ⟨e, hei, hq⟩ := hq.elim
      cases hle : Nat.ble (off + m) e.cells.length with
      | false => simp [hle] at hq
      | true =>
        have hle' := Nat.le_of_ble_eq_true hle
        have fin : ∀ (hec : e.cells = [e]), (match (nbA (ev x)).cells with
            | [c] => K .junk n (set h id (.arr sz (xs.set i c)))
            | _ => False) → EGives P E w ι n h (execOp ρ o) K := by
          intro hec hq2
          split at hq2
          case h_2 => exact hq2.elim
          rename_i c hc
          have hp : c.pure1 = true := by rw [hc] at hb2; simpa using hb2
          have hcc : c.cells = [c] := by cases c <;> first | rfl | simp [AV.pure1] at hp
          have hm1 : m = 1 := by rw [← hl, hc]; rfl
          have hoff : off = 0 := by rw [hec] at hle'; simp at hle'; omega
          subst hoff
          refine cast (store_arr_sound r hA hX hg hm hs hl hei hle' hb2 (e' := c) ?_ hq2) (by simp only [execOp, ho])
          rw [hcc, hec, hc]; rfl
        cases e with
        | agg cs =>
          simp only [hle] at hq
          exact cast (store_arr_sound r hA hX hg hm hs hl hei hle' hb2 rfl hq) (by simp only [execOp, ho])
        | _ => simp only [hle] at hq; exact fin rfl hq
  · rename_i t l c
    split at hq
    case h_2 => exact hq.elim
    rename_i e hu
    split at hq
    case h_2 => exact hq.elim
    rename_i i z hi hz
    split at hq
    case h_2 => exact hq.elim
    rename_i k lv k' cv hl hc
    obtain ⟨a, rfl, ha, hq⟩ := hq.elim
    obtain ⟨b, rfl, hb, hq⟩ := hq.elim
    obtain ⟨⟨h1, h2⟩, hk⟩ := hq.elim
    have h3 := hev l
    have h4 := hev c
    rw [hl] at h3; rw [hc] at h4
    exact cast (makeSlice_sound (k := k) (k' := k') r hu hi hz ha hb h1 h2 hk) (by simp only [execOp, ho, rel_v h3, rel_v h4])
  · rename_i t x hi mx
    split at hq
    case h_2 => exact hq.elim
    rename_i e hu
    split at hq
    case h_2 => exact hq.elim
    rename_i sz hsz
    split at hq
    case h_2 => exact hq.elim
    rename_i k a k' b ha hb
    have h3 := hev hi
    have h4 := hev mx
    rw [ha] at h3; rw [hb] at h4
    have h3 := rel_v h3
    have h4 := rel_v h4
    have fin : ∀ (ad : Option Addr) (len cap : Nat), ρ x = .slice ad len cap → a = 0 ∧ b = 0 → K (.os n sz 0 0) (n + 1) ((n, .arr sz []) :: h) → EGives P E w ι n h (execOp ρ o) K := by
      rintro ad len cap hx ⟨rfl, rfl⟩ hk
      obtain ⟨ι', g1, g2, g3⟩ := new_virtual r (Sub.refl) sz ad
      have hz := tsz_spec (P := P) (w := w) hsz
      have hrun : (Instr.sliceAt t (ρ x) none (some (.int k 0)) (some (.int k' 0))).run P w = .ok (.slice ad 0 0) w := by
        simp [Instr.sliceAt, Instr.slice, run_underlying hu, hx, Instr.sliceBounds, Instr.sliceBound, asIntOf, hz]
      exact cast (value_gives hrun hk g1 g2 g3) (by simp only [execOp, ho, Option.map_some, Option.map_none, h3, h4])
    have hX := hev x
    split at hq
    · rename_i hx
      rw [hx] at hX
      obtain ⟨h1, h2⟩ := hq.elim
      generalize hv : ρ x = v at hX
      cases hX
      exact fin _ _ _ hv h1 h2
    · rename_i xs hx
      rw [hx] at hX
      obtain ⟨h1, h2⟩ := hq.elim
      generalize hv : ρ x = v at hX
      cases hX <;> exact fin _ _ _ hv h1 h2
    · rename_i i1 i2 i3 i4 hx
      rw [hx] at hX
      obtain ⟨h1, h2⟩ := hq.elim
      generalize hv : ρ x = v at hX
      cases hX <;> exact fin _ _ _ hv h1 h2
    · exact hq.elim
  · rename_i c
    split at hq
    case h_4 => exact hq.elim
    · rename_i hcal
      split at hq
      case h_2 => exact hq.elim
      rename_i t t' x y ht hx
      have ea := arr2 ht
      have eb := arr2 hx
      have heq : execOp ρ o = (do pure (.value (← Builtin.append_ #[t, t'] o.type #[ρ x, ρ y]))) := by simp [execOp, ho, resolve, hcal, invoke, builtin, ea, eb]
      split at hq
      case h_3 => exact hq.elim
      · rename_i e' hu'
        refine cast (appQ_sound r (hev x) (fun e i K' hi hs => ?_) hq) heq
        obtain ⟨ys, h1, h2⟩ := srcQ_sound (P := P) r (hev y) hs
        exact ⟨ys, ⟨h1.2.1, .inl ⟨_, hu', h1⟩⟩, h2⟩
      · rename_i k' hu'
        split at hq
        case h_2 => exact hq.elim
        rename_i k m hy
        obtain ⟨m, rfl, hm, hq⟩ := hq.elim
        have h3 := hev y
        rw [hy] at h3
        refine cast (appQ_sound r (hev x) (fun e i K' hi hs => ?_) hq) heq
        unfold zsrc at hs
        split at hs
        case h_2 => exact hs.elim
        rename_i z hz
        obtain ⟨zv, i', sz', z1, z2, z3, z4, z5, z6⟩ := zeroEl_spec (E := E) (w := w) hz
        rw [hi] at z2; cases z2
        refine ⟨_, ⟨fun x hx => ?_, .inr ⟨_, k, hu', ?_, ?_, z, hz, by simp⟩⟩, hs⟩
        · rw [List.eq_of_mem_replicate hx]; omega
        · rw [rel_v h3]; simp
        · simpa using hm
    · rename_i hcal
      split at hq
      case h_2 => exact hq.elim
      rename_i t t' x y ht hx
      have ea := arr2 ht
      have eb := arr2 hx
      have heq : execOp ρ o = (do pure (.value (← Builtin.copy_ #[t, t'] o.type #[ρ x, ρ y]))) := by simp [execOp, ho, resolve, hcal, invoke, builtin, ea, eb]
      split at hq
      case h_2 => exact hq.elim
      rename_i e hu
      split at hq
      case h_1 => exact hq.elim
      rename_i sz hsz
      split at hq
      case h_2 => exact hq.elim
      rename_i id sz' off len he
      split at hq
      case h_1 => exact hq.elim
      rename_i hs
      have hs := Nat.eq_of_beq_eq_true hs
      subst hs
      split at hq
      case h_2 => exact hq.elim
      rename_i sz'' xs hg
      split at hq
      case h_1 => exact hq.elim
      rename_i hs
      have hs := Nat.eq_of_beq_eq_true hs
      subst hs
      obtain ⟨ys, h1, h2⟩ := srcQ_sound (P := P) r (hev y) hq
      obtain ⟨⟨h3, h4⟩, hk⟩ := h2.elim
      have hX := hev x
      rw [he] at hX
      exact cast (copy_sound (t' := t') r hX hu hsz hg h1 h3 h4 hk _ rfl) heq
    · rename_i hcal
      split at hq
      case h_2 => exact hq.elim
      rename_i t x ht hx
      have ea := arr1 ht
      have eb := arr1 hx
      have heq : execOp ρ o = (do pure (.value (← Builtin.cap_ #[t] o.type #[ρ x]))) := by simp [execOp, ho, resolve, hcal, invoke, builtin, ea, eb]
      split at hq
      case h_2 => exact hq.elim
      rename_i e hu
      have hX := hev x
      generalize hxv : ρ x = xv at *
      split at hq
      case h_4 => exact hq.elim
      · rename_i he; rw [he] at hX
        cases hX
        exact cast (value_gives (cap_run rfl hu rfl) hq (.v _) r Ext.refl) heq
      · rename_i he; rw [he] at hX
        cases hX with
        | osz => exact cast (value_gives (cap_run rfl hu rfl) (hq 0 (Nat.le_refl _)) (.v _) r Ext.refl) heq
        | os _ _ _ _ b base cap hι hc hcell => exact cast (value_gives (cap_run rfl hu rfl) (hq cap hc) (.v _) r Ext.refl) heq
      · rename_i he; rw [he] at hX
        cases hX with
        | lnil a c => exact cast (value_gives (cap_run rfl hu rfl) (hq c (by simp)) (.v _) r Ext.refl) heq
        | lst _ b off nn cap sz hE hb hn hcap hz g hg h => exact cast (value_gives (cap_run rfl hu rfl) (hq cap (by omega)) (.v _) r Ext.refl) heq

end
end Go.Vm

set_option linter.unusedVariables false
set_option linter.unusedSimpArgs false
namespace Go.Vm

/-! ### Names in values -/
def refs1 : AV → List Nat
  | .op id _ => [id]
  | .ep id _ _ _ => [id]
  | .os id _ _ _ => [id]
  | _ => []
def refsL : List AV → List Nat
  | [] => []
  | x :: xs => refs1 x ++ refsL xs
def refsA : AV → List Nat
  | .agg cs => refsL cs
  | .fn _ a b => refsL a ++ refsL b
  | x => refs1 x
def refsAL : List AV → List Nat
  | [] => []
  | x :: xs => refsA x ++ refsAL xs
def elemN (i : Nat) : List Nat → Bool
  | [] => false
  | j :: l => match Nat.beq j i with
    | true => true
    | false => elemN i l
def dels (h : Hp) : List Nat → Hp
  | [] => h
  | i :: l => dels (del h i) l

/-! ### Freezing: own arrays and boxes in a value become values that are never written -/
def frz1 (h : Hp) (x : AV) (K : AV → Prop) : Prop :=
  match x with
  | .os id sz off len => (match get h id with
    | some (.arr sz' xs) => (match Nat.beq sz sz' with
      | true => Sl xs off len fun ys => K (.lst ys)
      | false => False)
    | _ => False)
  | .op id off => (match get h id with
    | some (.box cs) => (match cs.all AV.pure1 with
      | true => frcL (cs.drop off) fun ds => K (.fp ds)
      | false => False)
    | _ => False)
  | .ep _ _ _ _ => False
  | x => K x
def frzL (h : Hp) : List AV → (List AV → Prop) → Prop
  | [], K => K []
  | x :: xs, K => frz1 h x fun y => frzL h xs fun ys => K (y :: ys)
def frzA (h : Hp) (x : AV) (K : AV → Prop) : Prop :=
  match x with
  | .agg cs => frzL h cs fun cs' => K (.agg cs')
  | .fn f a b => frzL h a fun a' => frzL h b fun b' => K (.fn f a' b')
  | x => frz1 h x K
def frzAL (h : Hp) : List AV → (List AV → Prop) → Prop
  | [], K => K []
  | x :: xs, K => frzA h x fun y => frzAL h xs fun ys => K (y :: ys)

/-- one cell, and no name in it -/
def AV.noref1 : AV → Bool
  | .v _ => true
  | .sb _ => true
  | .nils => true
  | .lst _ => true
  | .fp _ => true
  | .junk => true
  | .fn _ [] [] => true
  | _ => false
def AV.noref : AV → Bool
  | .agg cs => cs.all AV.noref1
  | .fn _ a b => a.all AV.noref1 && b.all AV.noref1
  | x => x.noref1
def objPure : Obj → Bool
  | .box cs => cs.all AV.pure1
  | .arr _ _ => true
/-- the own memory behind a call -/
def mergeH : List Nat → List Obj → Nat → Hp → Hp
  | _, [], _, base => base
  | [], o :: os, n, base => (n, o) :: mergeH [] os (n + 1) base
  | i :: ids, o :: os, n, base => (i, o) :: mergeH ids os n base

def enumH : Nat → List Obj → Hp
  | _, [] => []
  | k, o :: os => (k, o) :: enumH (k + 1) os

def okFn (P : Program) (f : FuncId) : Bool :=
  match P.funcs[f]? with
  | some fn => fn.body.isSome && !(fn.name == "runtime.NumGoroutine")
  | none => false

/-- A contract: function f, called with these arguments where the own memory of its caller that it may touch is hs (names 0, 1, ..), returns; its result and that memory behind the call satisfy K. -/
structure ACall (P : Program) (f : FuncId) (args : List AV) (hs : List Obj) (K : AV → List Obj → Prop) : Prop where
  out : okFn P f = true ∧ ∀ (ι : Inj) (E : Nat → Prop) (w : World) (vals : Array Value), Rep ι E w hs.length (enumH 0 hs) → RL E w ι args vals →
    Calls P f vals w fun e w' => ∃ v r hs' ι' E', e = .returned v ∧ K r hs' ∧ Rep ι' E' w' hs'.length (enumH 0 hs') ∧ Rel E' w' ι' r v ∧ Ext ι (enumH 0 hs) E w ι' (enumH 0 hs') E' w'

section
variable {P : Program} {E : Nat → Prop} {w : World} {ι : Inj} {n : Nat} {h : Hp}

theorem ACall.elim {f : FuncId} {args : List AV} {hs : List Obj} {K : AV → List Obj → Prop} (hc : ACall P f args hs K) : okFn P f = true ∧ ∀ (ι : Inj) (E : Nat → Prop) (w : World) (vals : Array Value), Rep ι E w hs.length (enumH 0 hs) → RL E w ι args vals →
    Calls P f vals w fun e w' => ∃ v r hs' ι' E', e = .returned v ∧ K r hs' ∧ Rep ι' E' w' hs'.length (enumH 0 hs') ∧ Rel E' w' ι' r v ∧ Ext ι (enumH 0 hs) E w ι' (enumH 0 hs') E' w' := by
  exact hc.out
theorem ACall.intro {f : FuncId} {args : List AV} {hs : List Obj} {K : AV → List Obj → Prop} (h1 : okFn P f = true) (h2 : ∀ (ι : Inj) (E : Nat → Prop) (w : World) (vals : Array Value), Rep ι E w hs.length (enumH 0 hs) → RL E w ι args vals →
    Calls P f vals w fun e w' => ∃ v r hs' ι' E', e = .returned v ∧ K r hs' ∧ Rep ι' E' w' hs'.length (enumH 0 hs') ∧ Rel E' w' ι' r v ∧ Ext ι (enumH 0 hs) E w ι' (enumH 0 hs') E' w') : ACall P f args hs K := by
  exact ⟨h1, h2⟩
theorem ACall.mono {f : FuncId} {args : List AV} {hs : List Obj} {K K' : AV → List Obj → Prop} (hc : ACall P f args hs K) (hk : ∀ r hs', K r hs' → K' r hs') : ACall P f args hs K' := by
  obtain ⟨h1, h2⟩ := hc.elim
  refine .intro h1 (fun ι E w vals r hr => (h2 ι E w vals r hr).mono ?_)
  rintro e w' ⟨v, r, hs', ι', E', a, b, c⟩
  exact ⟨v, r, hs', ι', E', a, hk _ _ b, c⟩

theorem get_dels (h : Hp) (l : List Nat) (j : Nat) : get (dels h l) j = if j ∈ l then none else get h j := by
  induction l generalizing h with
  | nil => simp [dels]
  | cons i l ih =>
    simp only [dels, ih, get_del, List.mem_cons]
    by_cases h1 : j ∈ l
    · simp [h1]
    · by_cases h2 : i = j
      · subst h2; simp [h1]
      · simp [h1, h2, Ne.symm h2]
theorem Sub.dels (l : List Nat) : Sub (dels h l) h := fun id o hg => by
  rw [get_dels] at hg
  split at hg
  · cases hg
  · exact hg

/-- own blocks are let go: they count as frozen from now on -/
def Eout (ι : Inj) (h : Hp) (S : Nat → Prop) (E : Nat → Prop) : Nat → Prop := fun b => E b ∧ ¬ ∃ id o base, S id ∧ get h id = some o ∧ ι id = some (some (b, base))

theorem keeps_out (S : Nat → Prop) : Keeps E w (Eout ι h S E) w := ⟨Nat.le_refl _, fun b _ hE => ⟨rfl, fun hh => hE hh.1⟩, fun _ h => h, fun _ _ => rfl⟩

theorem release (r : Rep ι E w n h) (S : Nat → Prop) {h0 : Hp} (hs : Sub h0 h) (hS : ∀ id o, get h0 id = some o → ¬ S id) : Rep ι (Eout ι h S E) w n h0 ∧ Ext ι h E w ι h0 (Eout ι h S E) w := by
  refine ⟨⟨r.fresh, fun id o hg => (r.obj id o (hs _ _ hg)).keep (keeps_out S) (fun _ _ h => h) (fun b base hb => ⟨r.own_E ⟨id, o, base, hs _ _ hg, hb⟩, ?_⟩) (fun _ _ _ => rfl),
    fun id id' o o' b base base' h1 h2 => r.sep id id' o o' b base base' (hs _ _ h1) (hs _ _ h2), fun b hb => r.bound b hb.1⟩,
    ⟨rfl, rfl, rfl, Nat.le_refl _, fun _ _ h => h, fun b hb hn => ⟨rfl, fun h => h.1, fun h => ⟨h, ?_⟩⟩, fun b hb ho => ?_, fun _ h => h, fun _ _ => rfl, Nat.le_refl _⟩⟩
  · rintro ⟨id', o', base', h1, h2, h3⟩
    have := r.sep _ _ _ _ _ _ _ (hs _ _ hg) h2 hb h3
    subst this
    exact hS _ _ hg h1
  · rintro ⟨id', o', base', h1, h2, h3⟩
    exact hn ⟨id', o', base', h2, h3⟩
  · obtain ⟨id, o, base, h1, h2⟩ := ho
    exact ⟨id, o, base, hs _ _ h1, h2⟩

theorem frz1_sound (r : Rep ι E w n h) {S : Nat → Prop} {x : AV} {v : Value} {K : AV → Prop} (hx : Rel E w ι x v) (hS : ∀ id, id ∈ refs1 x → S id) (hq : frz1 h x K) : ∃ y, Rel (Eout ι h S E) w ι y v ∧ K y ∧ refs1 y = [] ∧ (y = x ∨ (∃ ys, y = .lst ys) ∨ ∃ cs, y = .fp cs) := by
  have hk : Keeps E w (Eout ι h S E) w := keeps_out S
  have same : frz1 h x K = K x → refs1 x = [] → ∃ y, Rel (Eout ι h S E) w ι y v ∧ K y ∧ refs1 y = [] ∧ (y = x ∨ (∃ ys, y = .lst ys) ∨ ∃ cs, y = .fp cs) := fun e hr => ⟨x, hx.keep hk (fun _ _ h => h), e ▸ hq, hr, .inl rfl⟩
  cases x with
  | os id sz off len =>
    simp only [frz1] at hq
    cases hg : get h id with
    | none => simp [hg] at hq
    | some ob =>
      cases ob with
      | box _ => simp [hg] at hq
      | arr sz' xs =>
        simp only [hg] at hq
        cases hs : Nat.beq sz sz' with
        | false => simp [hs] at hq
        | true =>
          simp only [hs] at hq
          have hs := Nat.eq_of_beq_eq_true hs
          subst hs
          obtain ⟨h1, h2⟩ := hq.elim
          refine ⟨_, ?_, h2, rfl, .inr (.inl ⟨_, rfl⟩)⟩
          have hz := sz_of r hg
          have hx' := hx
          cases hx with
          | osz _ _ _ a => rw [List.take_zero]; exact .lnil _ _
          | os _ _ _ _ b base cap hι hc hcell =>
            have hE : ¬ Eout ι h S E b := fun hh => hh.2 ⟨id, _, base, hS id (by simp [refs1]), hg, hι⟩
            have hlen : ((xs.drop off).take len).length = len := by simp; omega
            have hb := own_ne r hg hι
            rcases r.obj id _ hg with ⟨h3, _⟩ | ⟨b', base', h3, h4, h5, h6, h7⟩
            · rw [hι] at h3; cases h3
            · rw [hι] at h3; cases h3
              have hget : ∀ (i : Nat) x, ((xs.drop off).take len)[i]? = some x → xs[off + i]? = some x := by
                intro i x hx
                rw [List.getElem?_take] at hx
                split at hx
                · rwa [List.getElem?_drop] at hx
                · cases hx
              refine .lst _ b _ _ cap sz hE hb hlen.symm hc (fun i x hx => h6 _ x (hget i x hx)) (fun i j => (w.cell? ⟨b, base + off * sz + i * sz + j, none⟩).getD default) (fun i x j y hx hy => ?_) (fun i x j y hx hy => ?_)
              · obtain ⟨u, hu, _⟩ := h7 _ x j y (hget i x hx) hy
                rw [show base + (off + i) * sz + j = base + off * sz + i * sz + j by rw [Nat.add_mul]; omega] at hu
                simp [hu]
              · obtain ⟨u, hu, _, hr⟩ := h7 _ x j y (hget i x hx) hy
                rw [show base + (off + i) * sz + j = base + off * sz + i * sz + j by rw [Nat.add_mul]; omega] at hu
                simp only [hu, Option.getD_some]
                exact hr.keep hk (fun _ _ h => h)
  | op id off =>
    simp only [frz1] at hq
    cases hg : get h id with
    | none => simp [hg] at hq
    | some ob =>
      cases ob with
      | arr _ _ => simp [hg] at hq
      | box cs =>
        simp only [hg] at hq
        cases hp : cs.all AV.pure1 with
        | false => simp [hp] at hq
        | true =>
          simp only [hp] at hq
          refine ⟨_, ?_, (by rw [frcL_eq] at hq; exact hq), rfl, .inr (.inr ⟨_, rfl⟩)⟩
          cases hx with
          | op _ _ b base hι =>
            have hE : ¬ Eout ι h S E b := fun hh => hh.2 ⟨id, _, base, hS id (by simp [refs1]), hg, hι⟩
            obtain ⟨b', base', h3, h4, h5, h6⟩ := r.obj id _ hg
            rw [hι] at h3; cases h3
            refine rel_fp hE h5 (fun j y hy => ?_)
            rw [List.getElem?_drop] at hy
            obtain ⟨u, hu, _, hr⟩ := h6 _ y hy
            rw [List.all_eq_true] at hp
            exact ⟨u, by rw [Nat.add_assoc]; exact hu, (hr.pure1 (hp y (List.mem_of_getElem? hy))).keep hk (fun _ _ h => h)⟩
  | ep => simp [frz1] at hq
  | _ => exact same rfl rfl

theorem RL.cons {E' : Nat → Prop} {ι' : Inj} {x : AV} {v : Value} {xs : List AV} {vs : List Value} (h1 : Rel E' w ι' x v) (h2 : RL E' w ι' xs ⟨vs⟩) : RL E' w ι' (x :: xs) ⟨v :: vs⟩ := by
  refine ⟨by simp; exact h2.1, fun i a b ha hb => ?_⟩
  cases i with
  | zero => simp at ha hb; subst ha; subst hb; exact h1
  | succ i => exact h2.2 i a b (by simpa using ha) (by simpa using hb)
theorem RL.head {x : AV} {xs : List AV} {c : Array Value} (h : RL E w ι (x :: xs) c) : ∃ v vs, c = ⟨v :: vs⟩ ∧ Rel E w ι x v ∧ RL E w ι xs ⟨vs⟩ := by
  obtain ⟨l⟩ := c
  cases l with
  | nil => have := h.1; simp at this
  | cons v vs =>
    refine ⟨v, vs, rfl, h.2 0 x v rfl rfl, by have := h.1; simp at this ⊢; exact this, fun i a b ha hb => h.2 (i + 1) a b (by simpa using ha) (by simpa using hb)⟩
theorem RL.nil {c : Array Value} (h : RL E w ι [] c) : c = #[] := by
  have := h.1; simp at this; exact Array.eq_empty_of_size_eq_zero this.symm

theorem frzL_sound (r : Rep ι E w n h) {S : Nat → Prop} : ∀ {xs : List AV} {c : Array Value} {K : List AV → Prop}, RL E w ι xs c → (∀ id, id ∈ refsL xs → S id) → frzL h xs K → ∃ ys, RL (Eout ι h S E) w ι ys c ∧ K ys ∧ refsL ys = []
  | [], c, K, hx, _, hq => by
    cases hx.nil
    exact ⟨[], rl_nil, hq, rfl⟩
  | x :: xs, c, K, hx, hS, hq => by
    obtain ⟨v, vs, rfl, h1, h2⟩ := hx.head
    obtain ⟨y, a1, a2, a3, _⟩ := frz1_sound r h1 (fun id hid => hS id (by simp [refsL, hid])) hq
    obtain ⟨ys, b1, b2, b3⟩ := frzL_sound r h2 (fun id hid => hS id (by simp [refsL, hid])) a2
    exact ⟨y :: ys, RL.cons a1 b1, b2, by simp [refsL, a3, b3]⟩

theorem frzA_sound (r : Rep ι E w n h) {S : Nat → Prop} {x : AV} {v : Value} {K : AV → Prop} (hx : Rel E w ι x v) (hS : ∀ id, id ∈ refsA x → S id) (hq : frzA h x K) : ∃ y, Rel (Eout ι h S E) w ι y v ∧ K y ∧ refsA y = [] := by
  have atom : frzA h x K = frz1 h x K → refsA x = refs1 x → ∃ y, Rel (Eout ι h S E) w ι y v ∧ K y ∧ refsA y = [] := by
    intro e1 e2
    rw [e1] at hq
    rw [e2] at hS
    obtain ⟨y, a1, a2, a3, a4⟩ := frz1_sound r hx hS hq
    refine ⟨y, a1, a2, ?_⟩
    rcases a4 with rfl | ⟨ys, rfl⟩ | ⟨cs, rfl⟩
    · rw [e2]; exact a3
    · rfl
    · rfl
  cases x with
  | agg cs =>
    cases hx with
    | agg _ c hs h =>
      obtain ⟨ys, b1, b2, b3⟩ := frzL_sound r (⟨hs, h⟩ : RL E w ι cs c) hS hq
      exact ⟨_, .agg _ _ b1.1 b1.2, b2, b3⟩
  | fn f a b =>
    cases hx with
    | fn _ _ _ F C hF hC h1 h2 =>
      obtain ⟨ys, b1, b2, b3⟩ := frzL_sound r (⟨hF, h1⟩ : RL E w ι a F) (fun id hid => hS id (by simp [refsA, hid])) hq
      obtain ⟨zs, c1, c2, c3⟩ := frzL_sound r (⟨hC, h2⟩ : RL E w ι b C) (fun id hid => hS id (by simp [refsA, hid])) b2
      exact ⟨_, .fn f _ _ _ _ b1.1 c1.1 b1.2 c1.2, c2, by simp [refsA, b3, c3]⟩
  | _ => exact atom rfl rfl

theorem frzAL_sound (r : Rep ι E w n h) {S : Nat → Prop} : ∀ {xs : List AV} {c : Array Value} {K : List AV → Prop}, RL E w ι xs c → (∀ id, id ∈ refsAL xs → S id) → frzAL h xs K → ∃ ys, RL (Eout ι h S E) w ι ys c ∧ K ys ∧ refsAL ys = []
  | [], c, K, hx, _, hq => by
    cases hx.nil
    exact ⟨[], rl_nil, hq, rfl⟩
  | x :: xs, c, K, hx, hS, hq => by
    obtain ⟨v, vs, rfl, h1, h2⟩ := hx.head
    obtain ⟨y, a1, a2, a3⟩ := frzA_sound r h1 (fun id hid => hS id (by simp [refsAL, hid])) hq
    obtain ⟨ys, b1, b2, b3⟩ := frzAL_sound r h2 (fun id hid => hS id (by simp [refsAL, hid])) a2
    exact ⟨y :: ys, RL.cons a1 b1, b2, by simp [refsAL, a3, b3]⟩

theorem Rel.noref1 {x : AV} {v : Value} {ι' : Inj} (hx : Rel E w ι x v) (hn : x.noref1 = true) : Rel E w ι' x v := by
  cases hx with
  | v => exact .v _
  | sb b => exact .sb b
  | nils => exact .nils
  | lnil a c => exact .lnil a c
  | lst xs b off n cap sz hE hb hnn hcap hz g hg h => exact .lst xs b off n cap sz hE hb hnn hcap hz g hg h
  | fp cs b off hE hb g hg h => exact .fp cs b off hE hb g hg h
  | junk => exact .junk _
  | fn f fs cs F C hF hC h1 h2 =>
    cases fs <;> cases cs <;> simp [AV.noref1] at hn
    exact .fn f [] [] F C hF hC (fun i x y hx _ => by simp at hx) (fun i x y hx _ => by simp at hx)
  | _ => simp [AV.noref1] at hn

theorem RL.noref1 {xs : List AV} {c : Array Value} {ι' : Inj} (hx : RL E w ι xs c) (hn : xs.all AV.noref1 = true) : RL E w ι' xs c := by
  rw [List.all_eq_true] at hn
  exact ⟨hx.1, fun i x y h1 h2 => (hx.2 i x y h1 h2).noref1 (hn x (List.mem_of_getElem? h1))⟩

theorem Rel.noref {x : AV} {v : Value} {ι' : Inj} (hx : Rel E w ι x v) (hn : x.noref = true) : Rel E w ι' x v := by
  cases x with
  | agg cs =>
    cases hx with
    | agg _ c hs h =>
      have := RL.noref1 (ι' := ι') (⟨hs, h⟩ : RL E w ι cs c) hn
      exact .agg _ _ this.1 this.2
  | fn f a b =>
    cases hx with
    | fn _ _ _ F C hF hC h1 h2 =>
      simp only [AV.noref, Bool.and_eq_true] at hn
      have t1 := RL.noref1 (ι' := ι') (⟨hF, h1⟩ : RL E w ι a F) hn.1
      have t2 := RL.noref1 (ι' := ι') (⟨hC, h2⟩ : RL E w ι b C) hn.2
      exact .fn f _ _ _ _ t1.1 t2.1 t1.2 t2.2
  | _ => exact Rel.noref1 hx hn

theorem RL.noref {xs : List AV} {c : Array Value} {ι' : Inj} (hx : RL E w ι xs c) (hn : xs.all AV.noref = true) : RL E w ι' xs c := by
  rw [List.all_eq_true] at hn
  exact ⟨hx.1, fun i x y h1 h2 => (hx.2 i x y h1 h2).noref (hn x (List.mem_of_getElem? h1))⟩

theorem ORel.pure {id id' : Nat} {o : Obj} {ι' : Inj} (ho : ORel E w ι id o) (hp : objPure o = true) (he : ι' id' = ι id) : ORel E w ι' id' o := by
  cases o with
  | box cs =>
    obtain ⟨b, base, h1, h2, h3, h4⟩ := ho
    simp only [objPure, List.all_eq_true] at hp
    refine ⟨b, base, by rw [he]; exact h1, h2, h3, fun i c hc => ?_⟩
    obtain ⟨u, h5, h6, h7⟩ := h4 i c hc
    exact ⟨u, h5, h6, h7.pure1 (hp c (List.mem_of_getElem? hc))⟩
  | arr sz xs =>
    rcases ho with ⟨h1, h2⟩ | ⟨b, base, h1, h2⟩
    · exact .inl ⟨by rw [he]; exact h1, h2⟩
    · exact .inr ⟨b, base, by rw [he]; exact h1, h2⟩

theorem get_enum : ∀ (os : List Obj) (k id : Nat), get (enumH k os) id = if k ≤ id then os[id - k]? else none
  | [], k, id => by simp [enumH, get]
  | o :: os, k, id => by
    simp only [enumH, get_cons, get_enum os (k + 1) id]
    by_cases h1 : k = id
    · subst h1; simp
    · rw [if_neg h1]
      by_cases h2 : k ≤ id
      · rw [if_pos (by omega), if_pos h2, show id - k = (id - (k + 1)) + 1 by omega]; rfl
      · rw [if_neg (by omega), if_neg h2]

theorem get_merge : ∀ (ids : List Nat) (hs : List Obj) (n : Nat) (base : Hp) (id : Nat) (o : Obj), get (mergeH ids hs n base) id = some o →
    (∃ j : Nat, ids[j]? = some id ∧ hs[j]? = some o) ∨ (∃ j : Nat, id = n + j ∧ hs[ids.length + j]? = some o) ∨ get base id = some o
  | [], [], n, base, id, o, h => .inr (.inr h)
  | [], x :: hs, n, base, id, o, h => by
    simp only [mergeH, get_cons] at h
    split at h
    · rename_i e; subst e; cases h
      exact .inr (.inl ⟨0, rfl, rfl⟩)
    · rcases get_merge [] hs (n + 1) base id o h with ⟨j, h1, _⟩ | ⟨j, h1, h2⟩ | h1
      · simp at h1
      · exact .inr (.inl ⟨j + 1, by omega, by simpa using h2⟩)
      · exact .inr (.inr h1)
  | i :: ids, [], n, base, id, o, h => .inr (.inr h)
  | i :: ids, x :: hs, n, base, id, o, h => by
    simp only [mergeH, get_cons] at h
    split at h
    · rename_i e; subst e; cases h
      exact .inl ⟨0, rfl, rfl⟩
    · rcases get_merge ids hs n base id o h with ⟨j, h1, h2⟩ | ⟨j, h1, h2⟩ | h1
      · exact .inl ⟨j + 1, by simpa using h1, by simpa using h2⟩
      · exact .inr (.inl ⟨j, h1, by simp only [List.length_cons]; rw [show ids.length + 1 + j = (ids.length + j) + 1 by omega]; exact h2⟩)
      · exact .inr (.inr h1)

/-! ### Names changed -/
def ren1 (ρ : Nat → Option Nat) (x : AV) : AV :=
  match x with
  | .op id off => (match ρ id with
    | some j => .op j off
    | none => .junk)
  | .ep id sz i off => (match ρ id with
    | some j => .ep j sz i off
    | none => .junk)
  | .os id sz off len => (match ρ id with
    | some j => .os j sz off len
    | none => .junk)
  | .agg _ => .junk
  | .tup _ => .junk
  | .fn f [] [] => .fn f [] []
  | .fn _ _ _ => .junk
  | x => x
def renL (ρ : Nat → Option Nat) : List AV → List AV
  | [] => []
  | x :: xs => ren1 ρ x :: renL ρ xs
def renO (ρ : Nat → Option Nat) : Obj → Obj
  | .box cs => .box (renL ρ cs)
  | .arr sz xs => .arr sz xs
/-- objects with their names changed, forced -/
def renOs (ρ : Nat → Option Nat) : List Obj → (List Obj → Prop) → Prop
  | [], K => K []
  | .box cs :: r, K => frcL (renL ρ cs) fun ds => renOs ρ r fun r' => K (.box ds :: r')
  | .arr sz xs :: r, K => renOs ρ r fun r' => K (.arr sz xs :: r')
theorem renOs_eq (ρ : Nat → Option Nat) : ∀ (os : List Obj) (K : List Obj → Prop), renOs ρ os K = K (os.map (renO ρ))
  | [], K => rfl
  | .box cs :: r, K => by simp only [renOs, frcL_eq, renOs_eq ρ r, List.map_cons, renO]
  | .arr sz xs :: r, K => by simp only [renOs, renOs_eq ρ r, List.map_cons, renO]
def idxOf (i : Nat) : List Nat → Nat → Option Nat
  | [], _ => none
  | j :: l, k => match Nat.beq j i with
    | true => some k
    | false => idxOf i l (k + 1)
def objsOf (h : Hp) : List Nat → Option (List Obj)
  | [] => some []
  | i :: l => match get h i, objsOf h l with
    | some o, some os => some (o :: os)
    | _, _ => none
theorem ren1_rel {ρ : Nat → Option Nat} {ι' : Inj} (hρ : ∀ id j p, ρ id = some j → ι id = some p → ι' j = some p) {x : AV} {v : Value} (hx : Rel E w ι x v) : Rel E w ι' (ren1 ρ x) v := by
  cases hx with
  | v y => exact .v _
  | sb b => exact .sb b
  | nils => exact .nils
  | lnil a c => exact .lnil a c
  | lst xs b off n cap sz hE hb hn hcap hz g hg h => exact .lst xs b off n cap sz hE hb hn hcap hz g hg h
  | fp cs b off hE hb g hg h => exact .fp cs b off hE hb g hg h
  | junk y => exact .junk _
  | agg cs c => exact .junk _
  | tup cs c => exact .junk _
  | fn f fs cs F C hF hC h1 h2 =>
    cases fs with
    | nil => cases cs with
      | nil => exact .fn f [] [] F C hF hC (fun i x y hx _ => by simp at hx) (fun i x y hx _ => by simp at hx)
      | cons c cs => exact .junk _
    | cons c cs => exact .junk _
  | op id off b base hι =>
    simp only [ren1]
    cases hj : ρ id with
    | none => exact .junk _
    | some j => exact .op j off b base (hρ _ _ _ hj hι)
  | ep id sz i off b base hι =>
    simp only [ren1]
    cases hj : ρ id with
    | none => exact .junk _
    | some j => exact .ep j sz i off b base (hρ _ _ _ hj hι)
  | osz id sz off a =>
    simp only [ren1]
    cases hj : ρ id with
    | none => exact .junk _
    | some j => exact .osz j sz off a
  | os id sz off len b base cap hι hc hcell =>
    simp only [ren1]
    cases hj : ρ id with
    | none => exact .junk _
    | some j => exact .os j sz off len b base cap (hρ _ _ _ hj hι) hc hcell
theorem renL_rel {ρ : Nat → Option Nat} {ι' : Inj} (hρ : ∀ id j p, ρ id = some j → ι id = some p → ι' j = some p) : ∀ {xs : List AV} {c : Array Value}, RL E w ι xs c → RL E w ι' (renL ρ xs) c
  | [], c, hx => by cases hx.nil; exact rl_nil
  | x :: xs, c, hx => by
    obtain ⟨v, vs, rfl, h1, h2⟩ := hx.head
    exact RL.cons (ren1_rel hρ h1) (renL_rel hρ h2)
theorem idxOf_spec : ∀ {l : List Nat} {i k q : Nat}, idxOf i l k = some q → k ≤ q ∧ l[q - k]? = some i
  | [], i, k, q, h => by simp [idxOf] at h
  | j :: l, i, k, q, h => by
    simp only [idxOf] at h
    split at h
    · rename_i hb
      have := Nat.eq_of_beq_eq_true hb
      subst this
      cases h
      exact ⟨Nat.le_refl _, by simp⟩
    · obtain ⟨h1, h2⟩ := idxOf_spec h
      refine ⟨by omega, ?_⟩
      rw [show q - k = (q - (k + 1)) + 1 by omega]; exact h2
theorem ORel.ren {id id' : Nat} {o : Obj} {ι' : Inj} {ρ : Nat → Option Nat} (ho : ORel E w ι id o) (hρ : ∀ id j p, ρ id = some j → ι id = some p → ι' j = some p) (he : ι' id' = ι id) : ORel E w ι' id' (renO ρ o) := by
  cases o with
  | box cs =>
    obtain ⟨b, base, h1, h2, h3, h4⟩ := ho
    refine ⟨b, base, by rw [he]; exact h1, h2, h3, fun i c hc => ?_⟩
    have hl : ∀ (l : List AV) (k : Nat), (renL ρ l)[k]? = (l[k]?).map (ren1 ρ) := by
      intro l
      induction l with
      | nil => intro k; simp [renL]
      | cons x xs ih => intro k; cases k with
        | zero => simp [renL]
        | succ k => simpa [renL] using ih k
    rw [hl, Option.map_eq_some_iff] at hc
    obtain ⟨c0, h5, rfl⟩ := hc
    obtain ⟨u, h6, h7, h8⟩ := h4 i c0 h5
    exact ⟨u, h6, h7, ren1_rel hρ h8⟩
  | arr sz xs =>
    rcases ho with ⟨h1, h2⟩ | ⟨b, base, h1, h2⟩
    · exact .inl ⟨by rw [he]; exact h1, h2⟩
    · exact .inr ⟨b, base, by rw [he]; exact h1, h2⟩
def inN (ids : List Nat) (i : Nat) : Option Nat := idxOf i ids 0
def backTo (ids : List Nat) (n : Nat) (j : Nat) : Option Nat :=
  match ids[j]? with
  | some id => some id
  | none => some (n + (j - ids.length))

/-- the callee's names -/
def calleeInj (ι : Inj) (ids : List Nat) : Inj := fun j => match ids[j]? with
  | some id => ι id
  | none => none

theorem callee_rep (r : Rep ι E w n h) {ids : List Nat} {objs : List Obj} (hnd : ids.Nodup) (hl : ids.length = objs.length) (ho : ∀ (j : Nat) id o, ids[j]? = some id → objs[j]? = some o → get h id = some o) :
    Rep (calleeInj ι ids) E w (objs.map (renO (inN ids))).length (enumH 0 (objs.map (renO (inN ids)))) := by
  have hget : ∀ (j : Nat) o, get (enumH 0 (objs.map (renO (inN ids)))) j = some o → ∃ id o0, ids[j]? = some id ∧ objs[j]? = some o0 ∧ get h id = some o0 ∧ calleeInj ι ids j = ι id ∧ o = renO (inN ids) o0 := by
    intro j o hj
    rw [get_enum] at hj
    simp only [Nat.zero_le, if_true, Nat.sub_zero, List.getElem?_map, Option.map_eq_some_iff] at hj
    obtain ⟨o0, hj, rfl⟩ := hj
    have hlt : j < ids.length := by
      rw [hl]
      rcases Nat.lt_or_ge j objs.length with h | h
      · exact h
      · simp [h] at hj
    have hi := List.getElem?_eq_getElem hlt
    exact ⟨_, o0, hi, hj, ho _ _ _ hi hj, by simp [calleeInj, hi], rfl⟩
  have hρ : ∀ id j p, inN ids id = some j → ι id = some p → calleeInj ι ids j = some p := by
    intro id j p hj hp
    obtain ⟨_, h5⟩ := idxOf_spec hj
    simp only [Nat.sub_zero] at h5
    simp [calleeInj, h5, hp]
  refine ⟨fun j hj => ?_, fun j o hj => ?_, fun j j' o o' b base base' h1 h2 h3 h4 => ?_, r.bound⟩
  · rw [List.length_map] at hj
    simp [calleeInj, List.getElem?_eq_none (show ids.length ≤ j by omega)]
  · obtain ⟨id, o0, a1, a2, a3, a4, rfl⟩ := hget j o hj
    exact (r.obj id o0 a3).ren hρ a4
  · obtain ⟨id, _, a1, a2, a3, a4, _⟩ := hget j o h1
    obtain ⟨id', _, b1, b2, b3, b4, _⟩ := hget j' o' h2
    rw [a4] at h3; rw [b4] at h4
    have := r.sep _ _ _ _ _ _ _ a3 b3 h3 h4
    subst this
    have hj1 : j < ids.length := by
      rcases Nat.lt_or_ge j ids.length with h | h
      · exact h
      · simp [h] at a1
    exact (List.getElem?_inj hj1 hnd).1 (a1.trans b1.symm)

theorem merge_rep (r : Rep ι E w n h) {ids : List Nat} {objs hs' : List Obj} (hnd : ids.Nodup) (hl : ids.length = objs.length) (ho : ∀ (j : Nat) id o, ids[j]? = some id → objs[j]? = some o → get h id = some o)
    {ι' : Inj} {E' : Nat → Prop} {w' : World} (hle : ids.length ≤ hs'.length) (r' : Rep ι' E' w' hs'.length (enumH 0 hs')) (x : Ext (calleeInj ι ids) (enumH 0 (objs.map (renO (inN ids)))) E w ι' (enumH 0 hs') E' w') :
    Rep (fun id => if id < n then ι id else ι' (ids.length + (id - n))) E' w' (n + (hs'.length - ids.length)) (mergeH ids (hs'.map (renO (backTo ids n))) n (dels h ids)) ∧
    Ext ι h E w (fun id => if id < n then ι id else ι' (ids.length + (id - n))) (mergeH ids (hs'.map (renO (backTo ids n))) n (dels h ids)) E' w' ∧
    (∀ id j p, backTo ids n id = some j → ι' id = some p → (fun id => if id < n then ι id else ι' (ids.length + (id - n))) j = some p) := by
  have hlt : ∀ id p, ι id = some p → id < n := by
    intro id p hp
    rcases Nat.lt_or_ge id n with h | h
    · exact h
    · rw [r.fresh id h] at hp; cases hp
  have hget0 : ∀ {id o}, get h id = some o → id < n := by
    intro id o hg
    have := r.obj id o hg
    cases o with
    | box cs => obtain ⟨b, base, h1, _⟩ := this; exact hlt _ _ h1
    | arr sz xs =>
      rcases this with ⟨h1, _⟩ | ⟨b, base, h1, _⟩
      · exact hlt _ _ h1
      · exact hlt _ _ h1
  have hidin : ∀ {j id : Nat}, ids[j]? = some id → ∃ o, objs[j]? = some o ∧ get h id = some o := by
    intro j id hj
    have hj' : j < objs.length := by
      rw [← hl]
      rcases Nat.lt_or_ge j ids.length with h | h
      · exact h
      · simp [h] at hj
    exact ⟨_, List.getElem?_eq_getElem hj', ho _ _ _ hj (List.getElem?_eq_getElem hj')⟩
  -- the callee's names mean what the caller's do
  have hcal : ∀ {j id : Nat}, ids[j]? = some id → ι' j = ι id := by
    intro j id hj
    obtain ⟨o, h1, h2⟩ := hidin hj
    have h3 : calleeInj ι ids j = ι id := by simp [calleeInj, hj]
    cases hq : ι id with
    | none =>
      have := r.obj id o h2
      cases o with
      | box cs => obtain ⟨b, base, h4, _⟩ := this; rw [hq] at h4; cases h4
      | arr sz xs =>
        rcases this with ⟨h4, _⟩ | ⟨b, base, h4, _⟩ <;> (rw [hq] at h4; cases h4)
    | some p => exact x.inj j p (by rw [h3, hq])
  have hown : ∀ {b}, Own (calleeInj ι ids) (enumH 0 (objs.map (renO (inN ids)))) b → ∃ (j id : Nat) (o : Obj) (base : Nat), ids[j]? = some id ∧ get h id = some o ∧ ι id = some (some (b, base)) := by
    rintro b ⟨j, o, base, h1, h2⟩
    rw [get_enum] at h1
    simp only [Nat.zero_le, if_true, Nat.sub_zero, List.getElem?_map, Option.map_eq_some_iff] at h1
    obtain ⟨o0, h1, rfl⟩ := h1
    have hj : j < ids.length := by
      rw [hl]
      rcases Nat.lt_or_ge j objs.length with h | h
      · exact h
      · simp [h] at h1
    have hi := List.getElem?_eq_getElem hj
    refine ⟨j, _, o0, base, hi, ho _ _ _ hi h1, ?_⟩
    simp only [calleeInj, hi] at h2; exact h2
  have hnotown : ∀ {id o b base}, get (dels h ids) id = some o → ι id = some (some (b, base)) → ¬ Own (calleeInj ι ids) (enumH 0 (objs.map (renO (inN ids)))) b := by
    intro id o b base hg hb hO
    obtain ⟨j, id', o', base', h1, h2, h3⟩ := hown hO
    have := r.sep _ _ _ _ _ _ _ (Sub.dels ids _ _ hg) h2 hb h3
    subst this
    rw [get_dels, if_pos (List.mem_of_getElem? h1)] at hg
    cases hg
  have hin : ∀ id p, ι id = some p → (fun id => if id < n then ι id else ι' (ids.length + (id - n))) id = some p := by
    intro id p hp
    simp only [hlt id p hp, if_true]; exact hp
  have hk : ∀ b, b < w.heap.size → ¬ Own (calleeInj ι ids) (enumH 0 (objs.map (renO (inN ids)))) b → w'.heap[b]? = w.heap[b]? ∧ (E' b ↔ E b) := x.old
  have hkeep : Keeps E w E' w' := ⟨x.size, fun b hb hE => by
    have hno : ¬ Own (calleeInj ι ids) (enumH 0 (objs.map (renO (inN ids)))) b := fun hO => by
      obtain ⟨j, id, o, base, h1, h2, h3⟩ := hown hO
      exact hE (r.own_E ⟨id, o, base, h2, h3⟩)
    obtain ⟨a, c⟩ := hk b hb hno
    exact ⟨a, fun h => hE (c.1 h)⟩, x.some, fun a ha => x.mark a (lt_of_cell ha)⟩
  have hback : ∀ id j p, backTo ids n id = some j → ι' id = some p → (if j < n then ι j else ι' (ids.length + (j - n))) = some p := by
    intro id j p hj hp
    unfold backTo at hj
    cases hi : ids[id]? with
    | some q =>
      simp only [hi, Option.some.injEq] at hj
      subst hj
      obtain ⟨_, _, h3⟩ := hidin hi
      rw [if_pos (hget0 h3), ← hcal hi]; exact hp
    | none =>
      simp only [hi, Option.some.injEq] at hj
      subst hj
      have hge : ids.length ≤ id := by
        rcases Nat.lt_or_ge id ids.length with h' | h'
        · simp [h'] at hi
        · exact h'
      rw [if_neg (by omega), ← hp]; congr 1; omega
  refine ⟨⟨fun id hid => ?_, fun id o hg => ?_, fun id id' o o' b base base' h1 h2 h3 h4 => ?_, r'.bound⟩, ⟨x.os, x.tape, x.output, x.size, hin, fun b hb hno => ?_, fun b hb hO => ?_, x.some, x.mark, x.drawn⟩, hback⟩
  · simp only [show ¬ id < n by omega, if_false]
    exact r'.fresh _ (by omega)
  · rcases get_merge _ _ _ _ _ _ hg with ⟨j, h1, h2⟩ | ⟨j, rfl, h2⟩ | h1
    · obtain ⟨o', _, h3⟩ := hidin h1
      rw [List.getElem?_map, Option.map_eq_some_iff] at h2
      obtain ⟨o0, h2, rfl⟩ := h2
      have hj : get (enumH 0 hs') j = some o0 := by rw [get_enum]; simpa using h2
      refine (r'.obj j o0 hj).ren hback ?_
      simp only [hget0 h3, if_true]; exact (hcal h1).symm
    · rw [List.getElem?_map, Option.map_eq_some_iff] at h2
      obtain ⟨o0, h2, rfl⟩ := h2
      have hj : get (enumH 0 hs') (ids.length + j) = some o0 := by rw [get_enum]; simpa using h2
      refine (r'.obj _ o0 hj).ren hback ?_
      simp
      intro h; omega
    · have hg' := Sub.dels ids _ _ h1
      refine (r.obj id o hg').keep hkeep hin (fun b base hb => ?_) (fun b base hb => ?_)
      · have := own_ne r hg' hb
        exact (hk b this (hnotown h1 hb)).2.2 (r.own_E ⟨id, o, base, hg', hb⟩)
      · exact (hk b (own_ne r hg' hb) (hnotown h1 hb)).1
  · -- apart
    have cls : ∀ {id o b base}, get (mergeH ids (hs'.map (renO (backTo ids n))) n (dels h ids)) id = some o → (if id < n then ι id else ι' (ids.length + (id - n))) = some (some (b, base)) →
        (∃ (j : Nat) (o0 : Obj), get (enumH 0 hs') j = some o0 ∧ ι' j = some (some (b, base)) ∧ ((ids[j]? = some id ∧ id < n) ∨ (j = ids.length + (id - n) ∧ n ≤ id))) ∨ (get (dels h ids) id = some o ∧ ι id = some (some (b, base)) ∧ id < n) := by
      intro id o b base hg hb
      rcases get_merge _ _ _ _ _ _ hg with ⟨j, h1, h2⟩ | ⟨j, rfl, h2⟩ | h1
      · obtain ⟨o', _, h3⟩ := hidin h1
        rw [if_pos (hget0 h3)] at hb
        rw [List.getElem?_map, Option.map_eq_some_iff] at h2
        obtain ⟨o0, h2, rfl⟩ := h2
        exact .inl ⟨j, o0, by rw [get_enum]; simpa using h2, by rw [hcal h1]; exact hb, .inl ⟨h1, hget0 h3⟩⟩
      · rw [if_neg (by omega)] at hb
        rw [List.getElem?_map, Option.map_eq_some_iff] at h2
        obtain ⟨o0, h2, rfl⟩ := h2
        exact .inl ⟨ids.length + j, o0, by rw [get_enum]; simpa using h2, by simpa using hb, .inr ⟨by omega, by omega⟩⟩
      · have hl' := hget0 (Sub.dels ids _ _ h1)
        rw [if_pos hl'] at hb
        exact .inr ⟨h1, hb, hl'⟩
    have mixed : ∀ {id o b base j o' base'}, get (dels h ids) id = some o → ι id = some (some (b, base)) → get (enumH 0 hs') j = some o' → ι' j = some (some (b, base')) → False := by
      intro id o b base j o' base' a1 a2 a3 a4
      have hb := own_ne r (Sub.dels ids _ _ a1) a2
      exact hnotown a1 a2 (x.own b hb ⟨j, o', base', a3, a4⟩)
    rcases cls h1 h3 with ⟨j, _, a1, a2, a3⟩ | ⟨a1, a2, a3⟩ <;> rcases cls h2 h4 with ⟨j', _, b1, b2, b3⟩ | ⟨b1, b2, b3⟩
    · have := r'.sep _ _ _ _ _ _ _ a1 b1 a2 b2
      subst this
      rcases a3 with ⟨c1, c2⟩ | ⟨c1, c2⟩ <;> rcases b3 with ⟨d1, d2⟩ | ⟨d1, d2⟩
      · rw [c1] at d1; cases d1; rfl
      · have : j < ids.length := by
          rcases Nat.lt_or_ge j ids.length with h | h
          · exact h
          · simp [h] at c1
        omega
      · have : j < ids.length := by
          rcases Nat.lt_or_ge j ids.length with h | h
          · exact h
          · simp [h] at d1
        omega
      · omega
    · exact (mixed b1 b2 a1 a2).elim
    · exact (mixed a1 a2 b1 b2).elim
    · exact r.sep _ _ _ _ _ _ _ (Sub.dels ids _ _ a1) (Sub.dels ids _ _ b1) a2 b2
  · exact hk b hb (fun hO => by
      obtain ⟨j, id, o, base, h1, h2, h3⟩ := hown hO
      exact hno ⟨id, o, base, h2, h3⟩)
  · obtain ⟨id, o, base, hg, hb'⟩ := hO
    rcases get_merge _ _ _ _ _ _ hg with ⟨j, h1, h2⟩ | ⟨j, rfl, h2⟩ | h1
    · obtain ⟨o', _, h3⟩ := hidin h1
      simp only [hget0 h3, if_true] at hb'
      exact ⟨id, o', base, h3, hb'⟩
    · simp only [show ¬ n + j < n by omega, if_false] at hb'
      rw [List.getElem?_map, Option.map_eq_some_iff] at h2
      obtain ⟨o0, h2, rfl⟩ := h2
      have hO : Own ι' (enumH 0 hs') b := ⟨ids.length + j, o0, base, by rw [get_enum]; simpa using h2, by simpa using hb'⟩
      obtain ⟨j', id', o', base', a1, a2, a3⟩ := hown (x.own b hb hO)
      exact ⟨id', o', base', a2, a3⟩
    · have hl' := hget0 (Sub.dels ids _ _ h1)
      simp only [hl', if_true] at hb'
      exact ⟨id, o, base, Sub.dels ids _ _ h1, hb'⟩

end

def renA (ρ : Nat → Option Nat) (x : AV) : AV :=
  match x with
  | .agg cs => .agg (renL ρ cs)
  | .fn f a b => .fn f (renL ρ a) (renL ρ b)
  | x => ren1 ρ x
def renAL (ρ : Nat → Option Nat) : List AV → List AV
  | [] => []
  | x :: xs => renA ρ x :: renAL ρ xs
def renT (ρ : Nat → Option Nat) (x : AV) : AV :=
  match x with
  | .tup vs => .tup (renAL ρ vs)
  | x => renA ρ x
/-- names, each once, in the order of their first place -/
def addN (l : List Nat) : List Nat → List Nat
  | [] => l
  | i :: r => match elemN i l with
    | true => addN l r
    | false => addN (l ++ [i]) r
def refsO : Obj → List Nat
  | .box cs => refsL cs
  | .arr _ _ => []
def refsH (h : Hp) : List Nat → List Nat
  | [] => []
  | i :: l => match get h i with
    | some o => refsO o ++ refsH h l
    | none => refsH h l
def closeR (h : Hp) : Nat → List Nat → List Nat
  | 0, l => l
  | k + 1, l => closeR h k (addN l (refsH h l))
/-- the own memory that values lead to -/
def ownIds (h : Hp) (all : List AV) : List Nat := closeR h 2 (addN [] (refsAL all))

/-- nothing in it hangs on the world -/
def AV.flat1 : AV → Bool
  | .v _ => true
  | .sb _ => true
  | .nils => true
  | .junk => true
  | .lst [] => true
  | _ => false
def AV.flatA : AV → Bool
  | .agg cs => cs.all AV.flat1
  | x => x.flat1
def AV.flat : AV → Bool
  | .tup cs => cs.all AV.flatA
  | x => x.flatA
/-- what is handed back where own memory was lent -/
def lentQ (n : Nat) (h : Hp) (r : AV) (hs : List Obj) (K : AV → Nat → Hp → Prop) : Prop :=
  match hs with
  | [] => (match r.flat with
    | true => K r n h
    | false => False)
  | [.arr sz xs] => (match r with
    | .os 0 sz' off len => Ob (∀ x, x ∈ xs → x.cells.all AV.flat1 = true) (K (.os n sz' off len) (n + 1) ((n, .arr sz xs) :: h))
    | _ => False)
  | [.box cs] => (match r with
    | .op 0 off => (match cs.all AV.flat1 with
      | true => K (.op n off) (n + 1) ((n, .box cs) :: h)
      | false => False)
    | _ => False)
  | _ => False
def callQ (P : Program) (own lend : FuncId → Bool) (n : Nat) (h : Hp) (F : AV) (args : List AV) (K : AV → Nat → Hp → Prop) : Prop :=
  match F with
  | .fn (.func f) first cap => (match own f with
    | false => frzAL h (first ++ (args ++ cap)) fun all => (match (agL all).all AV.noref with
      | true => frcDL (agL all) fun all => ACall P f all [] fun r hs => (match lend f with
        | true => lentQ n h r hs K
        | false => match hs with
          | [] => frcH (dels h (refsAL (first ++ (args ++ cap)))) fun h' => K r n h'
          | _ :: _ => False)
      | false => False)
    | true => frcDL (first ++ (args ++ cap)) fun all0 => frcNs (ownIds h all0) fun ids => (match objsOf h ids with
      | some objs => frcDL (renAL (inN ids) all0) fun all => renOs (inN ids) objs fun objs' => ACall P f all objs' fun r hs => (match Nat.ble objs.length hs.length with
        | true => renOs (backTo ids n) hs fun hs' => frcH (mergeH ids hs' n (dels h ids)) fun h' => frcT (renT (backTo ids n) r) fun r' => frcN (n + (hs.length - objs.length)) fun n' => K r' n' h'
        | false => False)
      | none => False))
  | _ => False

section
variable {P : Program} {E : Nat → Prop} {w : World} {ι : Inj} {n : Nat} {h : Hp}

theorem renA_rel {ρ : Nat → Option Nat} {ι' : Inj} (hρ : ∀ id j p, ρ id = some j → ι id = some p → ι' j = some p) {x : AV} {v : Value} (hx : Rel E w ι x v) : Rel E w ι' (renA ρ x) v := by
  cases x with
  | agg cs =>
    cases hx with
    | agg _ c hs h =>
      have := renL_rel hρ (⟨hs, h⟩ : RL E w ι cs c)
      exact .agg _ _ this.1 this.2
  | fn f a b =>
    cases hx with
    | fn _ _ _ F C hF hC h1 h2 =>
      have t1 := renL_rel hρ (⟨hF, h1⟩ : RL E w ι a F)
      have t2 := renL_rel hρ (⟨hC, h2⟩ : RL E w ι b C)
      exact .fn f _ _ _ _ t1.1 t2.1 t1.2 t2.2
  | _ => exact ren1_rel hρ hx
theorem renAL_rel {ρ : Nat → Option Nat} {ι' : Inj} (hρ : ∀ id j p, ρ id = some j → ι id = some p → ι' j = some p) : ∀ {xs : List AV} {c : Array Value}, RL E w ι xs c → RL E w ι' (renAL ρ xs) c
  | [], c, hx => by cases hx.nil; exact rl_nil
  | x :: xs, c, hx => by
    obtain ⟨v, vs, rfl, h1, h2⟩ := hx.head
    exact RL.cons (renA_rel hρ h1) (renAL_rel hρ h2)
theorem renT_rel {ρ : Nat → Option Nat} {ι' : Inj} (hρ : ∀ id j p, ρ id = some j → ι id = some p → ι' j = some p) {x : AV} {v : Value} (hx : Rel E w ι x v) : Rel E w ι' (renT ρ x) v := by
  cases x with
  | tup cs =>
    cases hx with
    | tup _ c hs h =>
      have := renAL_rel hρ (⟨hs, h⟩ : RL E w ι cs c)
      exact .tup _ _ this.1 this.2
  | _ => exact renA_rel hρ hx

theorem elemN_spec : ∀ {l : List Nat} {i : Nat}, elemN i l = true ↔ i ∈ l
  | [], i => by simp [elemN]
  | j :: l, i => by
    simp only [elemN]
    cases hb : Nat.beq j i with
    | true => have := Nat.eq_of_beq_eq_true hb; subst this; simp
    | false =>
      have hne : i ≠ j := fun e => by subst e; rw [beq_self] at hb; cases hb
      simp only [elemN_spec, List.mem_cons, hne, false_or]
theorem objsOf_spec : ∀ {l : List Nat} {os : List Obj}, objsOf h l = some os → l.length = os.length ∧ ∀ (j : Nat) id o, l[j]? = some id → os[j]? = some o → get h id = some o
  | [], os, hq => by simp only [objsOf, Option.some.injEq] at hq; subst hq; exact ⟨rfl, fun j id o h => by simp at h⟩
  | i :: l, os, hq => by
    simp only [objsOf] at hq
    split at hq
    · rename_i o os' ho hos
      cases hq
      obtain ⟨h1, h2⟩ := objsOf_spec hos
      refine ⟨by simp [h1], fun j id o' hj hj' => ?_⟩
      cases j with
      | zero => simp at hj hj'; subst hj; subst hj'; exact ho
      | succ j => exact h2 j id o' (by simpa using hj) (by simpa using hj')
    · cases hq

theorem addN_nodup : ∀ (r l : List Nat), l.Nodup → (addN l r).Nodup
  | [], l, h => h
  | i :: r, l, h => by
    simp only [addN]
    cases hb : elemN i l with
    | true => exact addN_nodup r l h
    | false =>
      refine addN_nodup r _ ?_
      rw [List.nodup_append]
      refine ⟨h, by simp, fun a ha b hb' => ?_⟩
      simp at hb'; subst hb'
      rintro rfl
      rw [elemN_spec.2 ha] at hb; cases hb
theorem closeR_nodup (h : Hp) : ∀ (k : Nat) (l : List Nat), l.Nodup → (closeR h k l).Nodup
  | 0, l, hl => hl
  | k + 1, l, hl => closeR_nodup h k _ (addN_nodup _ _ hl)
theorem ownIds_nodup (h : Hp) (all : List AV) : (ownIds h all).Nodup := closeR_nodup h 2 _ (addN_nodup _ _ (by simp))

theorem Rel.flat1 {E2 : Nat → Prop} {w2 : World} {ι2 : Inj} {x : AV} {v : Value} (hx : Rel E w ι x v) (hn : x.flat1 = true) : Rel E2 w2 ι2 x v := by
  cases hx with
  | v => exact .v _
  | sb b => exact .sb b
  | nils => exact .nils
  | lnil a c => exact .lnil a c
  | lst xs b off n cap sz hE hb hnn hcap hz g hg h =>
    cases xs with
    | nil => simp only [List.length_nil] at hnn; subst hnn; exact .lnil _ _
    | cons _ _ => simp [AV.flat1] at hn
  | junk => exact .junk _
  | _ => simp [AV.flat1] at hn
theorem Rel.flatA {E2 : Nat → Prop} {w2 : World} {ι2 : Inj} {x : AV} {v : Value} (hx : Rel E w ι x v) (hn : x.flatA = true) : Rel E2 w2 ι2 x v := by
  cases x with
  | agg cs =>
    cases hx with
    | agg _ c hs h =>
      simp only [AV.flatA, List.all_eq_true] at hn
      exact .agg _ _ hs (fun i x y h1 h2 => (h i x y h1 h2).flat1 (hn x (List.mem_of_getElem? h1)))
  | _ => exact Rel.flat1 hx hn
theorem Rel.flat {E2 : Nat → Prop} {w2 : World} {ι2 : Inj} {x : AV} {v : Value} (hx : Rel E w ι x v) (hn : x.flat = true) : Rel E2 w2 ι2 x v := by
  cases x with
  | tup cs =>
    cases hx with
    | tup _ c hs h =>
      simp only [AV.flat, List.all_eq_true] at hn
      exact .tup _ _ hs (fun i x y h1 h2 => (h i x y h1 h2).flatA (hn x (List.mem_of_getElem? h1)))
  | _ => exact Rel.flatA hx hn

/-- own memory that was lent: it is owned again -/
theorem lend_back (r : Rep ι E w n h) (S : Nat → Prop) {E' : Nat → Prop} {w' : World} {ι' : Inj} {h' : Hp} (x : Ext noInj (enumH 0 []) (Eout ι h S E) w ι' h' E' w') (hb' : ∀ b, E' b → b < w'.heap.size) :
    Rep ι (fun b => E' b ∨ (b < w.heap.size ∧ E b)) w' n h ∧ Ext ι h E w ι h (fun b => E' b ∨ (b < w.heap.size ∧ E b)) w' := by
  have hno : ∀ b, ¬ Own noInj (enumH 0 []) b := fun b ⟨id, o, base, hg, _⟩ => by simp [enumH, get] at hg
  have hiff : ∀ b, b < w.heap.size → ((E' b ∨ (b < w.heap.size ∧ E b)) ↔ E b) := fun b hb => by
    constructor
    · rintro (h1 | h1)
      · exact ((x.old b hb (hno b)).2.1 h1).1
      · exact h1.2
    · intro h1; exact .inr ⟨hb, h1⟩
  have hk : Keeps E w (fun b => E' b ∨ (b < w.heap.size ∧ E b)) w' := ⟨x.size, fun b hb hE => ⟨(x.old b hb (hno b)).1, fun h1 => hE ((hiff b hb).1 h1)⟩, x.some, fun a ha => x.mark a (lt_of_cell ha)⟩
  refine ⟨⟨r.fresh, fun id o hg => (r.obj id o hg).keep hk (fun _ _ h => h) (fun b base hb => (hiff b (own_ne r hg hb)).2 (r.own_E ⟨id, o, base, hg, hb⟩)) (fun b base hb => (x.old b (own_ne r hg hb) (hno b)).1), r.sep, fun b hb => ?_⟩,
    ⟨x.os, x.tape, x.output, x.size, fun _ _ h => h, fun b hb _ => ⟨(x.old b hb (hno b)).1, hiff b hb⟩, fun _ _ h => h, x.some, x.mark, x.drawn⟩⟩
  rcases hb with hb | hb
  · exact hb' b hb
  · exact Nat.lt_of_lt_of_le hb.1 x.size

/-- A call, met by a contract. -/
def CGives (P : Program) (E : Nat → Prop) (w : World) (ι : Inj) (h : Hp) (own : FuncId → Bool) (g : AV) (T : List Nat) (s : Sem Next) (K : AV → Nat → Hp → Prop) : Prop :=
  ∃ f first cap vals, g = .fn (.func f) first cap ∧ s.run P w = .ok (.enter f vals) w ∧ Calls P f vals w fun e w' => (∃ v x n' h' ι' E', e = .returned v ∧ K x n' h' ∧ Rel E' w' ι' x v ∧ Rep ι' E' w' n' h' ∧ Ext ι h E w ι' h' E' w') ∧ (own f = false → Same w w') ∧
    (∀ b, b < w.heap.size → (∀ id, id ∈ T → ∀ base, ι id ≠ some (some (b, base))) → w'.heap[b]? = w.heap[b]?)
/-- the own memory that a call may touch -/
def touchC (h : Hp) (F : AV) (args : List AV) : List Nat :=
  match F with
  | .fn _ first cap => ownIds h (first ++ (args ++ cap))
  | _ => []

theorem RL.append {xs ys : List AV} {a b : Array Value} (h1 : RL E w ι xs a) (h2 : RL E w ι ys b) : RL E w ι (xs ++ ys) (a ++ b) := by
  refine ⟨by simp [h1.1, h2.1], fun i x y hx hy => ?_⟩
  by_cases hi : i < xs.length
  · rw [List.getElem?_append_left hi] at hx
    rw [Array.getElem?_append_left (by rw [← h1.1]; exact hi)] at hy
    exact h1.2 i x y hx hy
  · rw [List.getElem?_append_right (by omega)] at hx
    rw [Array.getElem?_append_right (by rw [← h1.1]; omega), ← h1.1] at hy
    exact h2.2 _ x y hx hy

theorem lent_sound (r : Rep ι E w n h) {S : Nat → Prop} {h1 : Hp} (x1 : Ext ι h E w ι h1 (Eout ι h S E) w) (r1 : Rep ι (Eout ι h S E) w n h1) {e : Ending} {v : Value} (he : e = .returned v) {rv : AV} {hs' : List Obj} {ι' : Inj} {E' : Nat → Prop} {w' : World}
    (r' : Rep ι' E' w' hs'.length (enumH 0 hs')) (hr : Rel E' w' ι' rv v) (x' : Ext noInj (enumH 0 []) (Eout ι h S E) w ι' (enumH 0 hs') E' w') {K : AV → Nat → Hp → Prop} (hk : lentQ n h rv hs' K) :
    ∃ v x n' h' ι' E', e = .returned v ∧ K x n' h' ∧ Rel E' w' ι' x v ∧ Rep ι' E' w' n' h' ∧ Ext ι h E w ι' h' E' w' := by
  obtain ⟨rb, xb⟩ := lend_back r S x' r'.bound
  -- one object that is new
  have one : ∀ (o : Obj), hs' = [o] → (∀ (E2 : Nat → Prop) (ι2 : Inj), (∀ b base, ι' 0 = some (some (b, base)) → E2 b) → ι2 n = ι' 0 → ORel E2 w' ι2 n o) →
      Rep (ι.set n (match ι' 0 with | some p => p | none => none)) (fun b => E' b ∨ (b < w.heap.size ∧ E b)) w' (n + 1) ((n, o) :: h) ∧ Ext ι h E w (ι.set n (match ι' 0 with | some p => p | none => none)) ((n, o) :: h) (fun b => E' b ∨ (b < w.heap.size ∧ E b)) w' ∧
        (ι.set n (match ι' 0 with | some p => p | none => none)) n = ι' 0 := by
    intro o ho hor
    subst ho
    have hg0 : get (enumH 0 [o]) 0 = some o := rfl
    have h0 : ∃ p, ι' 0 = some p := by
      have := r'.obj 0 o hg0
      cases o with
      | box cs => obtain ⟨b, base, h1, _⟩ := this; exact ⟨_, h1⟩
      | arr sz xs => rcases this with ⟨h1, _⟩ | ⟨b, base, h1, _⟩ <;> exact ⟨_, h1⟩
    obtain ⟨p, hp⟩ := h0
    have hset : (ι.set n p) n = ι' 0 := by rw [Inj.set_same, hp]
    have hx := Inj.set_ext r p
    have hnew : ∀ b base, ι' 0 = some (some (b, base)) → w.heap.size ≤ b ∧ E' b := fun b base hb => by
      have hO : Own ι' (enumH 0 [o]) b := ⟨0, o, base, hg0, hb⟩
      refine ⟨?_, r'.own_E hO⟩
      rcases Nat.lt_or_ge b w.heap.size with hlt | hge
      · obtain ⟨id, o', base', hg, _⟩ := x'.own b hlt hO
        simp [enumH, get] at hg
      · exact hge
    have hne : ∀ {id o}, get h id = some o → id ≠ n := fun hg e => by subst e; rw [r.get_n] at hg; cases hg
    have hsame : ∀ {id}, id ≠ n → (ι.set n p) id = ι id := fun hi => by simp [Inj.set, hi]
    simp only [hp]
    refine ⟨⟨fun id hid => ?_, fun id ob hg => ?_, fun id id' ob ob' b base base' h1 h2 h3 h4 => ?_, rb.bound⟩, ⟨xb.os, xb.tape, xb.output, xb.size, hx, fun b hb hn => xb.old b hb hn, fun b hb hO => ?_, xb.some, xb.mark, xb.drawn⟩, hset.trans hp⟩
    · rw [hsame (by omega)]; exact r.fresh id (by omega)
    · rw [get_cons] at hg
      split at hg
      · rename_i e; subst e; cases hg
        exact hor _ _ (fun b base hb => .inl (hnew b base hb).2) hset
      · rename_i e
        have hk0 : Keeps (fun b => E' b ∨ (b < w.heap.size ∧ E b)) w' (fun b => E' b ∨ (b < w.heap.size ∧ E b)) w' := ⟨Nat.le_refl _, fun b _ hE => ⟨rfl, hE⟩, fun _ h => h, fun _ _ => rfl⟩
        exact (rb.obj id ob hg).keep hk0 hx (fun b base hb => rb.own_E ⟨id, ob, base, hg, hb⟩) (fun _ _ _ => rfl)
    · rw [get_cons] at h1 h2
      split at h1 <;> split at h2
      · omega
      · rename_i e1 e2
        subst e1
        rw [hset] at h3; rw [hsame (hne h2)] at h4
        have := (hnew _ _ h3).1
        have := own_ne r h2 h4
        omega
      · rename_i e1 e2
        subst e2
        rw [hset] at h4; rw [hsame (hne h1)] at h3
        have := (hnew _ _ h4).1
        have := own_ne r h1 h3
        omega
      · rw [hsame (hne h1)] at h3; rw [hsame (hne h2)] at h4
        exact r.sep _ _ _ _ _ _ _ h1 h2 h3 h4
    · obtain ⟨id, ob, base, hg, hb'⟩ := hO
      rw [get_cons] at hg
      split at hg
      · rename_i e; subst e
        rw [hset] at hb'
        have := (hnew _ _ hb').1
        omega
      · rw [hsame (hne hg)] at hb'
        exact ⟨id, ob, base, hg, hb'⟩
  unfold lentQ at hk
  split at hk
  · split at hk
    case h_2 => exact hk.elim
    rename_i hf
    exact ⟨v, rv, n, h, ι, _, he, hk, hr.flat hf, rb, xb⟩
  · split at hk
    case h_2 => exact hk.elim
    rename_i sz xs _ sz' off len
    obtain ⟨hfl, hk⟩ := hk.elim
    obtain ⟨q1, q2, q3⟩ := one (.arr sz xs) rfl (fun E2 ι2 hE2 hι2 => by
      rcases r'.obj 0 _ (rfl : get (enumH 0 [.arr sz xs]) 0 = _) with ⟨h2, h3⟩ | ⟨b, base, h2, h3, h4, h5, h6⟩
      · exact .inl ⟨by rw [hι2]; exact h2, h3⟩
      · refine .inr ⟨b, base, by rw [hι2]; exact h2, hE2 b base h2, h4, h5, fun i x j c hx hc => ?_⟩
        obtain ⟨u, a1, a2, a3⟩ := h6 i x j c hx hc
        have := hfl x (List.mem_of_getElem? hx)
        rw [List.all_eq_true] at this
        exact ⟨u, a1, a2, a3.flat1 (this c (List.mem_of_getElem? hc))⟩)
    refine ⟨v, _, _, _, _, _, he, hk, ?_, q1, q2⟩
    cases hr with
    | osz _ _ _ a => exact .osz _ _ _ _
    | os _ _ _ _ b base cap hι hc hcell => exact .os n sz' off len b base cap (by rw [q3]; exact hι) hc hcell
  · split at hk
    case h_2 => exact hk.elim
    rename_i cs _ off
    split at hk
    case h_2 => exact hk.elim
    rename_i hfl
    obtain ⟨q1, q2, q3⟩ := one (.box cs) rfl (fun E2 ι2 hE2 hι2 => by
      obtain ⟨b, base, h2, h3, h4, h5⟩ := r'.obj 0 _ (rfl : get (enumH 0 [.box cs]) 0 = _)
      refine ⟨b, base, by rw [hι2]; exact h2, hE2 b base h2, h4, fun i c hc => ?_⟩
      obtain ⟨u, a1, a2, a3⟩ := h5 i c hc
      rw [List.all_eq_true] at hfl
      exact ⟨u, a1, a2, a3.flat1 (hfl c (List.mem_of_getElem? hc))⟩)
    refine ⟨v, _, _, _, _, _, he, hk, ?_, q1, q2⟩
    cases hr with
    | op _ _ b base hι => exact .op n off b base (by rw [q3]; exact hι)
  · exact hk.elim

theorem callQ_sound (r : Rep ι E w n h) {own lend : FuncId → Bool} {ev : Operand → AV} {ρ : Operand → Value} (hev : ∀ x, Rel E w ι (ev x) (ρ x)) {o : Oper} {c : Call} {fo : Operand} (ho : o.op = .call c) (hc : c.callee = .value fo) {K : AV → Nat → Hp → Prop}
    (hq : callQ P own lend n h (ev fo) (c.args.toList.map ev) K) : CGives P E w ι h own (ev fo) (touchC h (ev fo) (c.args.toList.map ev)) (execOp ρ o) K := by
  unfold callQ at hq
  simp only [frcH_eq, frcL_eq, frcT_eq, frcN_eq, frcNs_eq, frcDL_eq, renOs_eq] at hq
  have hF := hev fo
  split at hq
  case h_2 => exact hq.elim
  rename_i f first cap he
  rw [he] at hF
  generalize hfv : ρ fo = fv at hF
  cases hF with
  | fn _ _ _ F C h1 h2 h3 h4 =>
    have hargs := rl_map hev c.args
    have hall : RL E w ι (first ++ (c.args.toList.map ev ++ cap)) (F ++ (c.args.map ρ ++ C)) := RL.append ⟨h1, h3⟩ (RL.append hargs ⟨h2, h4⟩)
    have hrun : okFn P f = true → (execOp ρ o).run P w = .ok (.enter f (F ++ (c.args.map ρ ++ C))) w := by
      intro hok
      unfold okFn at hok
      split at hok
      · rename_i fn hfn
        simp only [Bool.and_eq_true, Bool.not_eq_true'] at hok
        obtain ⟨hb, hnm⟩ := hok
        have hb' : fn.body.isNone = false := by cases hfb : fn.body <;> simp_all
        simp only [execOp, ho, resolve, hc, hfv, Deferred.ofValue, Sem.run_bind, Sem.run_pure, Result.andThen_ok, invoke, callFunc, run_program, hfn, hnm, hb', Bool.false_eq_true, if_false, Array.append_assoc]
      · cases hok
    split at hq
    · obtain ⟨all, a1, a2, a3⟩ := frzAL_sound r (S := fun id => id ∈ refsAL (first ++ (c.args.toList.map ev ++ cap))) hall (fun _ h => h) hq
      split at a2
      case h_2 => exact a2.elim
      rename_i hnr
      obtain ⟨hok, hcall⟩ := a2.elim
      obtain ⟨r1, x1⟩ := release r (fun id => id ∈ refsAL (first ++ (c.args.toList.map ev ++ cap))) (Sub.dels (refsAL (first ++ (c.args.toList.map ev ++ cap)))) (fun id o hg hm => by rw [get_dels, if_pos hm] at hg; cases hg)
      have r0 : Rep noInj _ w ([] : List Obj).length (enumH 0 []) := ⟨fun _ _ => rfl, fun id o hg => by simp [enumH, get] at hg, fun id id' o o' b base base' hg => by simp [enumH, get] at hg, r1.bound⟩
      refine ⟨f, first, cap, _, he, hrun hok, (hcall noInj _ w _ r0 (a1.agL.noref hnr)).mono ?_⟩
      rintro e w' ⟨v, rv, hs', ι', E', rfl, hk, r', hr, x'⟩
      have hno : ∀ b, ¬ Own noInj (enumH 0 []) b := fun b ⟨id, o, base, hg, _⟩ => by simp [enumH, get] at hg
      refine ⟨?_, fun _ b hb => (x'.old b hb (hno b)).1, fun b hb _ => (x'.old b hb (hno b)).1⟩
      split at hk
      · exact lent_sound r x1 r1 rfl r' hr x' hk
      cases hs' with
      | cons _ _ => exact hk.elim
      | nil =>
        have hι' : ι' = noInj := funext fun id => r'.fresh id (Nat.zero_le _)
        subst hι'
        have hk2 : Keeps _ w E' w' := x'.keeps r0
        have rr : Rep ι E' w' n (dels h (refsAL (first ++ (c.args.toList.map ev ++ cap)))) := by
          refine ⟨r1.fresh, fun id o hg => (r1.obj id o hg).keep hk2 (fun _ _ h => h) (fun b base hb => ?_) (fun b base hb => ?_), r1.sep, r'.bound⟩
          · exact (x'.old b (own_ne r1 hg hb) (hno b)).2.2 (r1.own_E ⟨id, o, base, hg, hb⟩)
          · exact (x'.old b (own_ne r1 hg hb) (hno b)).1
        refine ⟨v, rv, n, _, ι, E', rfl, hk, hr.up, rr, x1.trans ⟨x'.os, x'.tape, x'.output, x'.size, fun _ _ h => h, fun b hb _ => x'.old b hb (hno b), fun _ _ h => h, x'.some, x'.mark, x'.drawn⟩⟩
    · rename_i hown
      split at hq
      case h_2 => exact hq.elim
      rename_i objs hobjs
      obtain ⟨hok, hcall⟩ := hq.elim
      obtain ⟨hl, hget⟩ := objsOf_spec hobjs
      have hnd := ownIds_nodup h (first ++ (c.args.toList.map ev ++ cap))
      have hT : touchC h (ev fo) (c.args.toList.map ev) = ownIds h (first ++ (c.args.toList.map ev ++ cap)) := by rw [he]; rfl
      rw [hT]
      clear hT
      generalize ownIds h (first ++ (c.args.toList.map ev ++ cap)) = ids at *
      have r0 := callee_rep r hnd hl hget
      have hren : RL E w (calleeInj ι ids) (renAL (inN ids) (first ++ (c.args.toList.map ev ++ cap))) (F ++ (c.args.map ρ ++ C)) := by
        refine renAL_rel (fun id j p hj hp => ?_) hall
        obtain ⟨_, h5⟩ := idxOf_spec hj
        simp only [Nat.sub_zero] at h5
        simp [calleeInj, h5, hp]
      refine ⟨f, first, cap, _, he, hrun hok, (hcall _ E w _ r0 hren).mono ?_⟩
      rintro e w' ⟨v, rv, hs', ι', E', rfl, hk, r', hr, x'⟩
      refine ⟨?_, (fun hf => by rw [hown] at hf; cases hf), fun b hb hT => (x'.old b hb fun hO => ?_).1⟩
      case refine_2 =>
        obtain ⟨j, o, base, hg, hj⟩ := hO
        simp only [calleeInj] at hj
        split at hj
        · rename_i id hid
          exact hT id (List.mem_of_getElem? hid) base hj
        · cases hj
      split at hk
      case h_2 => exact hk.elim
      rename_i hble
      have hble := Nat.le_of_ble_eq_true hble
      obtain ⟨rr, xx, hback⟩ := merge_rep r hnd hl hget (by omega) r' x'
      rw [← hl] at hk
      exact ⟨v, _, _, _, _, E', rfl, hk, renT_rel hback hr, rr, xx⟩

end
end Go.Vm

