/- An abstract machine over the loaded code, part Q: arguments of a law, as the machine sees them. -/
import Derived.Test.YtkpnlmainmlogaaVmN
import Derived.OpenShut
set_option linter.unusedVariables false
set_option linter.unusedSimpArgs false
namespace Go.Vm
open Go.ChangeShapes Go.WideShapes

/-- x is what a value of type t looks like that is read only -/
def Ty (P : Program) : Nat → TypeId → AV → Prop
  | 0, _, _ => False
  | n + 1, t, x => match P.underlying t with
    | some .bool => ∃ b, x = .sb b
    | some (.int k) => ∃ i, x = .v (.int k i) ∧ k.min ≤ i ∧ i ≤ k.max
    | some .string => ∃ s, x = .v (.string s) ∧ s.size ≤ maxLen
    | some (.slice e) => ∃ xs, x = .lst xs ∧ xs.length ≤ maxLen ∧ ∀ y, y ∈ xs → Ty P n e y
    | some (.struct fs) => ∃ ys : List AV, ys.length = fs.size ∧ x = .agg (ys.flatMap AV.cells) ∧ ∀ (i : Nat) f y, fs[i]? = some f → ys[i]? = some y → Ty P n f.type y
    | some (.array m e) => ∃ ys : List AV, ys.length = m ∧ x = .agg (ys.flatMap AV.cells) ∧ ∀ y, y ∈ ys → Ty P n e y
    | _ => False

/-- the fields lie one behind the other, from off on, up to the end -/
def fieldsLie (P : Program) (tot : Nat) : Nat → List Field → Bool
  | off, [] => decide (off = tot)
  | off, f :: fs => decide (f.offset = off) && fieldsLie P tot (off + P.cellsOf f.type) fs
/-- a type that the bridge covers -/
def tyOk (P : Program) : Nat → TypeId → Bool
  | 0, _ => false
  | n + 1, t => match P.underlying t with
    | some .bool => true
    | some (.int _) => true
    | some .string => true
    | some (.slice e) => decide (0 < P.cellsOf e) && tyOk P n e
    | some (.struct fs) => fieldsLie P (P.cellsOf t) 0 fs.toList && fs.toList.all fun f => tyOk P n f.type
    | some (.array m e) => decide (P.cellsOf t = m * P.cellsOf e) && tyOk P n e
    | _ => false

def NoE : Nat → Prop := fun _ => False

section
variable {H : Type} {enc : TypeId × Value → H} {P : Program} {w : World} {held : Bool}

theorem RL.app {E : Nat → Prop} {ι : Inj} {xs ys : List AV} {as bs : List Value} (h1 : RL E w ι xs as.toArray) (h2 : RL E w ι ys bs.toArray) : RL E w ι (xs ++ ys) (as ++ bs).toArray := by
  have l1 : xs.length = as.length := by simpa using h1.1
  have l2 : ys.length = bs.length := by simpa using h2.1
  refine ⟨by simp [l1, l2], fun i x y hx hy => ?_⟩
  have hy : (as ++ bs)[i]? = some y := by simpa using hy
  rcases Nat.lt_or_ge i xs.length with hi | hi
  · rw [List.getElem?_append_left hi] at hx
    rw [List.getElem?_append_left (by omega)] at hy
    exact h1.2 i x y hx (by simpa using hy)
  · rw [List.getElem?_append_right hi] at hx
    rw [List.getElem?_append_right (by omega)] at hy
    exact h2.2 (i - xs.length) x y hx (by rw [l1]; simpa using hy)

theorem RL.one {E : Nat → Prop} {ι : Inj} {x : AV} {v : Value} (h : Rel E w ι x v) : RL E w ι [x] [v].toArray :=
  ⟨rfl, fun i a b ha hb => by
    match i with
    | 0 => simp at ha hb; subst ha; subst hb; exact h
    | n + 1 => simp at ha⟩

/-- cells that lie in a row, part by part -/
theorem parts_rel {fs : List Field} {cs : List Value} {tot : Nat} {Q : Field → AV → Prop} : ∀ {off : Nat}, off ≤ tot → cs.length = tot → fieldsLie P tot off fs = true →
    (∀ f, f ∈ fs → ∃ y, Q f y ∧ RL NoE w noInj y.cells ((cs.drop f.offset).take (P.cellsOf f.type)).toArray) →
    ∃ ys : List AV, ys.length = fs.length ∧ RL NoE w noInj (ys.flatMap AV.cells) (cs.drop off).toArray ∧ ∀ (i : Nat) f y, fs[i]? = some f → ys[i]? = some y → Q f y := by
  induction fs with
  | nil =>
    intro off hoff hl hf _
    simp only [fieldsLie, decide_eq_true_eq] at hf
    refine ⟨[], rfl, ⟨by simp; omega, fun i x y hx => by simp at hx⟩, fun i f y hf => by simp at hf⟩
  | cons f fs ih =>
    intro off hoff hl hf h
    simp only [fieldsLie, Bool.and_eq_true, decide_eq_true_eq] at hf
    obtain ⟨h1, h2⟩ := hf
    obtain ⟨y, q1, q2⟩ := h f (by simp)
    have hle : off + P.cellsOf f.type ≤ tot := by
      have mono : ∀ (fs : List Field) (o : Nat), fieldsLie P tot o fs = true → o ≤ tot := by
        intro fs
        induction fs with
        | nil => intro o ho; simp only [fieldsLie, decide_eq_true_eq] at ho; omega
        | cons g gs ihg =>
          intro o ho
          simp only [fieldsLie, Bool.and_eq_true, decide_eq_true_eq] at ho
          have := ihg _ ho.2
          omega
      exact mono fs _ h2
    obtain ⟨ys, a1, a2, a3⟩ := ih hle hl h2 (fun g hg => h g (by simp [hg]))
    refine ⟨y :: ys, by simp [a1], ?_, fun i g z hg hz => ?_⟩
    · rw [h1] at q2
      have e : cs.drop off = (cs.drop off).take (P.cellsOf f.type) ++ cs.drop (off + P.cellsOf f.type) := by
        rw [← List.drop_drop, List.take_append_drop]
      rw [e, List.flatMap_cons]
      exact q2.app a2
    · cases i with
      | zero => simp at hg hz; subst hg; subst hz; exact q1
      | succ i => exact a3 i g z (by simpa using hg) (by simpa using hz)

theorem rows_rel {m n : Nat} {cs : List Value} {Q : AV → Prop} (hl : cs.length = m * n) (h : ∀ i, i < m → ∃ y, Q y ∧ RL NoE w noInj y.cells ((cs.drop (i * n)).take n).toArray) :
    ∃ ys : List AV, ys.length = m ∧ RL NoE w noInj (ys.flatMap AV.cells) cs.toArray ∧ ∀ y, y ∈ ys → Q y := by
  induction m generalizing cs with
  | zero =>
    have : cs = [] := List.eq_nil_of_length_eq_zero (by omega)
    subst this
    exact ⟨[], rfl, ⟨rfl, fun i x y hx => by simp at hx⟩, fun y hy => by simp at hy⟩
  | succ m ih =>
    obtain ⟨y, q1, q2⟩ := h 0 (by omega)
    obtain ⟨ys, a1, a2, a3⟩ := ih (cs := cs.drop n) (by rw [List.length_drop, hl, Nat.succ_mul]; omega) (fun i hi => by
      obtain ⟨z, b1, b2⟩ := h (i + 1) (by omega)
      refine ⟨z, b1, ?_⟩
      rw [List.drop_drop, show n + i * n = (i + 1) * n by rw [Nat.succ_mul]; omega]
      exact b2)
    refine ⟨y :: ys, by simp [a1], ?_, fun z hz => ?_⟩
    · have e : cs = cs.take n ++ cs.drop n := (List.take_append_drop _ _).symm
      rw [e, List.flatMap_cons]
      simp only [Nat.zero_mul, List.drop_zero] at q2
      exact q2.app a2
    · rcases List.mem_cons.1 hz with rfl | hz
      · exact q1
      · exact a3 z hz

theorem list_of_fun {n : Nat} {Q : Nat → AV → Prop} (h : ∀ i, i < n → ∃ y, Q i y) : ∃ ys : List AV, ys.length = n ∧ ∀ (i : Nat) y, ys[i]? = some y → Q i y := by
  induction n with
  | zero => exact ⟨[], rfl, fun i y hy => by simp at hy⟩
  | succ n ih =>
    obtain ⟨ys, h1, h2⟩ := ih (fun i hi => h i (by omega))
    obtain ⟨y, hy⟩ := h n (by omega)
    refine ⟨ys ++ [y], by simp [h1], fun i z hz => ?_⟩
    rcases Nat.lt_or_ge i ys.length with hi | hi
    · rw [List.getElem?_append_left hi] at hz; exact h2 i z hz
    · rw [List.getElem?_append_right hi] at hz
      have : i - ys.length = 0 := by
        rcases Nat.eq_zero_or_pos (i - ys.length) with h0 | h0
        · exact h0
        · rw [List.getElem?_eq_none (by simp; omega)] at hz; cases hz
      rw [this] at hz
      simp at hz
      subst hz
      have : i = n := by omega
      subst this
      exact hy

theorem rel_of_trod : ∀ (d : Nat) {t : TypeId} {fuel : Nat} {cs : List Value} {x : DataW H × List MemPlace}, tyOk P d t = true → DataW.trod enc P w 0 (fun _ => true) held fuel t cs = some x →
    ∃ a, Ty P d t a ∧ RL NoE w noInj a.cells cs.toArray
  | 0, t, fuel, cs, x, ht, _ => by simp [tyOk] at ht
  | d + 1, t, fuel, cs, x, ht, h => by
    simp only [tyOk] at ht
    simp only [Ty]
    cases hu : P.underlying t with
    | none => simp [hu] at ht
    | some D =>
      simp only [hu] at ht ⊢
      cases D with
      | bool =>
        obtain ⟨b, rfl, _⟩ := DataW.trod_bool hu h
        exact ⟨.sb b, ⟨b, rfl⟩, RL.one (.sb b)⟩
      | int k =>
        obtain ⟨n, rfl, _, hw⟩ := DataW.trod_int hu h
        simp only [Lit.wf, Bool.and_eq_true, decide_eq_true_eq] at hw
        exact ⟨.v (.int k n), ⟨n, rfl, hw⟩, RL.one (.v _)⟩
      | string =>
        obtain ⟨s, rfl, _, hs⟩ := DataW.trod_string hu h
        exact ⟨.v (.string s), ⟨s, rfl, hs⟩, RL.one (.v _)⟩
      | slice e =>
        simp only [Bool.and_eq_true, decide_eq_true_eq] at ht
        rcases DataW.trod_slice hu h with ⟨rfl, _⟩ | ⟨a, len, cap, elems, rest, n, _, rfl, _, hb, hlc, hcm, hel, hget, _, _⟩
        · exact ⟨.lst [], ⟨[], rfl, by simp, fun y hy => by simp at hy⟩, RL.one (.lnil none 0)⟩
        · have each : ∀ i, i < len → ∃ y, Ty P d e y ∧ ∃ cs', w.cells? 0 (a.add (i * P.cellsOf e)) (P.cellsOf e) = some cs' ∧ RL NoE w noInj y.cells cs'.toArray := by
            intro i hi
            have hx := hget i hi
            rw [List.getElem?_eq_getElem (show i < elems.length by omega), Option.bind_eq_some_iff] at hx
            obtain ⟨cs', h1, h2⟩ := hx
            obtain ⟨y, h3, h4⟩ := rel_of_trod d ht.2 h2
            exact ⟨y, h3, cs', h1, h4⟩
          obtain ⟨ys, l1, l2⟩ := list_of_fun each
          refine ⟨.lst ys, ⟨ys, rfl, by omega, fun y hy => ?_⟩, RL.one ?_⟩
          · obtain ⟨i, hi⟩ := List.getElem?_of_mem hy
            exact (l2 i y hi).1
          · rcases Nat.eq_zero_or_pos len with h0 | h0
            · have : ys = [] := List.eq_nil_of_length_eq_zero (by omega)
              subst this; subst h0
              exact .lnil _ _
            · have hcell : ∀ (i : Nat) y (j : Nat) c, ys[i]? = some y → y.cells[j]? = some c → ∃ u, w.cell? ((a.add (i * P.cellsOf e)).add j) = some u ∧ Rel NoE w noInj c u := by
                intro i y j c hy hc
                obtain ⟨_, cs', c1, c2⟩ := l2 i y hy
                obtain ⟨_, c3, c4⟩ := World.cells?_some c1
                have hj : j < y.cells.length := (List.getElem?_eq_some_iff.1 hc).1
                have hj' : j < cs'.length := by have := c2.1; simp at this; omega
                rw [c4 j (by omega), List.getElem?_eq_getElem hj']
                exact ⟨_, rfl, c2.2 j c _ hc (by simp [hj'])⟩
              have hlenc : ∀ (i : Nat) y, ys[i]? = some y → y.cells.length = P.cellsOf e := by
                intro i y hy
                obtain ⟨_, cs', c1, c2⟩ := l2 i y hy
                obtain ⟨_, c3, c4⟩ := World.cells?_some c1
                have := c2.1; simp at this; omega
              have h00 : ys[0]? = some (ys[0]'(by omega)) := List.getElem?_eq_getElem _
              have hc0 : ((ys[0]'(by omega)).cells)[0]? = some (((ys[0]'(by omega)).cells)[0]'(by rw [hlenc 0 _ h00]; exact ht.1)) := List.getElem?_eq_getElem _
              obtain ⟨u0, hu0, _⟩ := hcell 0 _ 0 _ h00 hc0
              have hs : a.spot = none := by
                simp only [Nat.zero_mul, Addr.add, if_true] at hu0
                cases hsp : a.spot with
                | none => rfl
                | some k =>
                  unfold World.cell? at hu0
                  rw [hsp] at hu0
                  split at hu0
                  · simp at hu0
                  · cases hu0
              obtain ⟨b, off, spot⟩ := a
              simp only at hs
              subst hs
              have hadd : ∀ i j : Nat, ((⟨b, off, none⟩ : Addr).add (i * P.cellsOf e)).add j = ⟨b, off + i * P.cellsOf e + j, none⟩ := by
                intro i j
                simp only [Addr.add]
                by_cases h1 : i * P.cellsOf e = 0 <;> by_cases h2 : j = 0 <;> simp [h1, h2]
              refine .lst ys b off len cap (P.cellsOf e) (fun hh => hh) ?_ l1.symm hlc hlenc (fun i j => (w.cell? ⟨b, off + i * P.cellsOf e + j, none⟩).getD (.bool false)) (fun i y j c hy hc => ?_) (fun i y j c hy hc => ?_)
              · rw [hadd] at hu0
                exact lt_of_cell (a := ⟨b, _, none⟩) (by rw [hu0]; rfl)
              · obtain ⟨u, e1, _⟩ := hcell i y j c hy hc
                rw [hadd] at e1
                rw [e1]; rfl
              · obtain ⟨u, e1, e2⟩ := hcell i y j c hy hc
                rw [hadd] at e1
                simp only [e1, Option.getD_some]
                exact e2
      | struct fs =>
        simp only [Bool.and_eq_true, List.all_eq_true] at ht
        obtain ⟨xs, n, _, _, hl, _, hf⟩ := DataW.trod_struct hu h
        obtain ⟨ys, a1, a2, a3⟩ := parts_rel (w := w) (cs := cs) (Q := fun f y => Ty P d f.type y) (Nat.zero_le _) hl ht.1 (fun f hf' => by
          obtain ⟨i, hi⟩ := List.getElem?_of_mem hf'
          have hi' : fs[i]? = some f := by simpa using hi
          have hlt : i < fs.size := (Array.getElem?_eq_some_iff.1 hi').1
          have e1 := hf i f hi'
          rw [List.getElem?_eq_getElem (show i < xs.length by omega)] at e1
          exact rel_of_trod d (ht.2 f hf') e1)
        refine ⟨.agg (ys.flatMap AV.cells), ⟨ys, by simpa using a1, rfl, fun i f y hfi hy => a3 i f y (by simpa using hfi) hy⟩, ?_⟩
        simpa [AV.cells] using a2
      | array m e =>
        simp only [Bool.and_eq_true, decide_eq_true_eq] at ht
        obtain ⟨xs, n, _, _, hl, hlx, hf⟩ := DataW.trod_array hu h
        obtain ⟨ys, a1, a2, a3⟩ := rows_rel (w := w) (cs := cs) (Q := fun y => Ty P d e y) (hl.trans ht.1) (fun i hi => by
          have e1 := hf i hi
          rw [List.getElem?_eq_getElem (show i < xs.length by omega)] at e1
          exact rel_of_trod d ht.2 e1)
        exact ⟨.agg (ys.flatMap AV.cells), ⟨ys, a1, rfl, a3⟩, a2⟩
      | _ => simp at ht

/-- an argument -/
theorem rel_of_arg {d : Nat} {t : TypeId} {v : Value} {x : DataW H} {ps : List MemPlace} {base : Nat} (ht : tyOk P d t = true) (hval : Value.okWide P w .any base t v) (h : DataW.Trod enc P w 0 (fun _ => true) held t v x ps) :
    ∃ a, Ty P d t a ∧ Rel NoE w noInj a v := by
  obtain ⟨fuel, hf⟩ := h
  obtain ⟨a, h1, h2⟩ := rel_of_trod d ht hf
  refine ⟨a, h1, ?_⟩
  have single : ∀ {u : Value}, v = u → u.cells = #[u] → a.cells = [a] → Rel NoE w noInj a v := by
    rintro u rfl e1 e2
    rw [e1, e2] at h2
    exact h2.2 0 a v rfl rfl
  cases d with
  | zero => exact h1.elim
  | succ d =>
    simp only [Ty] at h1
    cases hu : P.underlying t with
    | none => simp [hu] at h1
    | some D =>
      simp only [hu] at h1
      cases D with
      | bool =>
        obtain ⟨b, rfl⟩ := h1
        obtain ⟨b', hv⟩ := okWide_bool hu hval
        exact single hv rfl rfl
      | int k =>
        obtain ⟨b, rfl, _⟩ := h1
        obtain ⟨b', hv⟩ := okWide_int hu hval
        exact single hv rfl rfl
      | string =>
        obtain ⟨b, rfl, _⟩ := h1
        obtain ⟨b', hv⟩ := okWide_string hu hval
        exact single hv rfl rfl
      | slice e =>
        obtain ⟨b, rfl, _⟩ := h1
        obtain ⟨_, _, _, hv⟩ := okWide_slice hu hval
        exact single hv rfl rfl
      | struct fs =>
        obtain ⟨ys, _, rfl, _⟩ := h1
        obtain ⟨cs, rfl, _⟩ := okWide_struct hu hval
        exact .agg _ _ (by simpa [AV.cells, Value.cells] using h2.1) (by simpa [AV.cells, Value.cells] using h2.2)
      | array m e =>
        obtain ⟨ys, _, rfl, _⟩ := h1
        simp only [Value.okWide, hu] at hval
        obtain ⟨cs, rfl, _⟩ := hval
        exact .agg _ _ (by simpa [AV.cells, Value.cells] using h2.1) (by simpa [AV.cells, Value.cells] using h2.2)
      | _ => exact h1.elim

/-- the arguments' types -/
def Tys (P : Program) (d : Nat) : List TypeId → List AV → Prop
  | [], [] => True
  | t :: ts, a :: as => Ty P d t a ∧ Tys P d ts as
  | _, _ => False

theorem rel_of_args {d base : Nat} : ∀ {ts : List TypeId} {vs : List Value} {xs : List (DataW H)} {ps : List MemPlace}, (ts.all fun t => tyOk P d t) = true →
    (∀ (j : Nat) t v, ts[j]? = some t → vs[j]? = some v → Value.okWide P w .any base t v) → DataW.TrodAll enc P w 0 (fun _ => true) held ts vs xs ps →
    ∃ as, Tys P d ts as ∧ RL NoE w noInj as vs.toArray
  | [], vs, xs, ps, _, _, h => by
    match vs, xs, h with
    | [], [], h => exact ⟨[], trivial, ⟨rfl, fun i x y hx => by simp at hx⟩⟩
  | t :: ts, vs, xs, ps, ht, hval, h => by
    match vs, xs, h with
    | v :: vs, x :: xs, h =>
      obtain ⟨p, q, h1, h2, rfl⟩ := h
      simp only [List.all_cons, Bool.and_eq_true] at ht
      obtain ⟨a, a1, a2⟩ := rel_of_arg ht.1 (hval 0 t v rfl rfl) h1
      obtain ⟨as, b1, b2⟩ := rel_of_args (base := base) ht.2 (fun j t v hj hv => hval (j + 1) t v hj hv) h2
      exact ⟨a :: as, ⟨a1, b1⟩, RL.app (RL.one a2) b2⟩

/-- THE CONTRACT OF A LAW, OUT OF THE MACHINE's. -/
theorem law_contract {f : FuncId} {fn : Func} {s : ChangeSpec} {d base : Nat} {t : TypeId} (hl : laidOutB P = true) (hp : parsOk P fn.params.toList = true) (hty : (fn.params.toList.all fun t => tyOk P d t) = true) (hv : s.vars = [])
    (hr : fn.resultTypes = #[t]) (ht : P.underlying t = some .bool) (hs : ∀ ds : List (DataW H), ds.length = fn.params.size → s.fn H ds = { results := [.lit (.bool true)], args := ds })
    (hc : ∀ as, Tys P d fn.params.toList as → ACall P f as [] fun r _ => r = .sb true ∨ r = .v (.bool true))
    {W : World} {args : Array Value} {ds gs : List (DataW H)} {before : List MemPlace} (hval : ∀ (j : Nat) t v, fn.params[j]? = some t → args[j]? = some v → Value.okWide P W .any base t v)
    (hW : DataW.Whole enc P fn.params.toList s.vars false W args.toList ds gs before) :
    Calls P f args W fun e W' => ∃ v, e = .returned v ∧ s.post enc P fn false true false false W args v W' := by
  have hW1 := hW
  obtain ⟨pa, pv, hA, hV, hps, _, _⟩ := hW
  have hgs : gs = [] := by
    rw [hv] at hV
    obtain ⟨rfl, rfl⟩ := trodVars_none hV
    rfl
  subst hgs
  obtain ⟨as, h1, h2⟩ := rel_of_args (d := d) (base := base) hty (fun j t v hj hv => hval j t v (by simpa using hj) (by simpa using hv)) hA
  have hlen : ∀ {ts : List TypeId} {vs : List Value} {xs : List (DataW H)} {ps : List MemPlace}, DataW.TrodAll enc P W 0 (fun _ => true) true ts vs xs ps → xs.length = ts.length := by
    intro ts
    induction ts with
    | nil => intro vs xs ps h; match vs, xs, h with | [], [], _ => rfl
    | cons t ts ih =>
      intro vs xs ps h
      match vs, xs, h with
      | v :: vs, x :: xs, h =>
        obtain ⟨p, q, _, h2, _⟩ := h
        simp [ih h2]
  have hl2 := hlen hA
  refine (ACall.law (hc as h1) (show RL NoE W noInj as args by simpa using h2)).mono ?_
  rintro e W' ⟨rfl, hst⟩
  exact ⟨_, rfl, law_post hW1 hst hl hp hv (by rw [List.append_nil]; exact hs ds (by simpa using hl2)) hr ht⟩

end
end Go.Vm
