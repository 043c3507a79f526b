/- An abstract machine over the loaded code: the steps of an evaluation. An abstract machine over the loaded code, part N: a contract, seen from outside: what a law's statement wants of its run. An abstract machine over the loaded code, part Q: arguments of a law, as the machine sees them. An abstract machine over the loaded code: masks of 32 bits. An abstract machine over the loaded code: names matched by themselves. An abstract machine over the loaded code: structs compared. -/
import Derived.RowKit3
import Derived.WideKeyArgs
import Derived.Deep.Frames
import Derived.OpenShut
import Derived.Test.YtgcplfplbcpemaaGreatM3
set_option linter.unusedVariables false
set_option linter.unusedSimpArgs false
namespace Go.Vm

theorem Lp.intro {p : Nat} {body : St → (Exit → St → Prop) → Prop} {σ : St} {Q : Exit → St → Prop} (G : Type) (S : G → St) (Inv : G → Prop) (μ : G → Nat) (g : G) (h0 : Inv g) (hle : Le p (S g) σ)
    (round : ∀ g, Inv g → body (S g) fun e σ' => match e with
      | .normal => ∃ g', Inv g' ∧ μ g' < μ g ∧ Le p (S g') σ'
      | e => Q e σ') : Lp p body σ Q := ⟨0, ⟨G, S, Inv, μ, ⟨g, h0, hle⟩, round⟩⟩
/-- at most n rounds one by one -/
theorem Lp.times {p : Nat} {body : St → (Exit → St → Prop) → Prop} {σ : St} {Q : Exit → St → Prop} (n : Nat) (h : Stp (LpN p body Q n σ)) : Lp p body σ Q := ⟨n, h.out⟩
theorem Stp.go {p : Nat} {body : St → (Exit → St → Prop) → Prop} {σ : St} {Q : Exit → St → Prop} {n : Nat} (h : body σ fun e σ' => match e with
      | .normal => Stp (LpN p body Q n σ')
      | e => Q e σ') : Stp (LpN p body Q (n + 1) σ) := ⟨.inr h⟩
theorem Stp.intro {p : Nat} {body : St → (Exit → St → Prop) → Prop} {σ : St} {Q : Exit → St → Prop} {n : Nat} (G : Type) (S : G → St) (Inv : G → Prop) (μ : G → Nat) (g : G) (h0 : Inv g) (hle : Le p (S g) σ)
    (round : ∀ g, Inv g → body (S g) fun e σ' => match e with
      | .normal => ∃ g', Inv g' ∧ μ g' < μ g ∧ Le p (S g') σ'
      | e => Q e σ') : Stp (LpN p body Q n σ) := by
  have h : Lp0 p body σ Q := ⟨G, S, Inv, μ, ⟨g, h0, hle⟩, round⟩
  cases n with
  | zero => exact ⟨h⟩
  | succ n => exact ⟨.inl h⟩

theorem Jn.intro {p : Nat} {body : (St → Prop) → Prop} {K : St → Prop} (G : Type) (S : G → St) (Inv : G → Prop) (h1 : body (fun σ' => ∃ g, Inv g ∧ Le p (S g) σ')) (h2 : ∀ g, Inv g → K (S g)) : Jn p body K := ⟨G, S, Inv, h1, h2⟩
/-- gathered at one state -/
theorem Jn.at {p : Nat} {body : (St → Prop) → Prop} {K : St → Prop} (s : St) (h1 : body (fun σ' => ∃ _ : Unit, True ∧ Le p s σ')) (h2 : K s) : Jn p body K := ⟨Unit, fun _ => s, fun _ => True, h1, fun _ _ => h2⟩
theorem br_t {b : Bool} {T F : Prop} (h : b = true) (h1 : T) : Br b T F := Br.intro (fun _ => h1) (fun h' => by rw [h] at h'; cases h')
theorem br_f {b : Bool} {T F : Prop} (h : b = false) (h1 : F) : Br b T F := Br.intro (fun h' => by rw [h] at h'; cases h') (fun _ => h1)
theorem br_lt {T F : Prop} (h : T) : Br true T F := br_t rfl h
theorem br_lf {T F : Prop} (h : F) : Br false T F := br_f rfl h
theorem br_b {b : Bool} {T F : Prop} (h1 : b = true → T) (h2 : b = false → F) : Br b T F := Br.intro h1 h2
theorem br_dec {p : Prop} {d : Decidable p} {T F : Prop} (h1 : p → T) (h2 : ¬ p → F) : Br (@decide p d) T F := Br.intro (fun h => h1 (of_decide_eq_true h)) (fun h => h2 (of_decide_eq_false h))
theorem br_not {b : Bool} {T F : Prop} (h : Br b F T) : Br (!b) T F := by
  obtain ⟨h1, h2⟩ := h.elim
  cases b
  · exact Br.intro (fun _ => h2 rfl) (fun h => by cases h)
  · exact Br.intro (fun h => by cases h) (fun _ => h1 rfl)
theorem br_pos {p : Prop} {d : Decidable p} {T F : Prop} (h : p) (h1 : T) : Br (@decide p d) T F := br_dec (fun _ => h1) (fun hn => absurd h hn)
theorem br_neg {p : Prop} {d : Decidable p} {T F : Prop} (h : ¬ p) (h1 : F) : Br (@decide p d) T F := br_dec (fun hp => absurd hp h) (fun _ => h1)
theorem in_nat {j len : Nat} {K : Nat → Prop} (h : j < len) (hk : K j) : In (j : Int) len K := In.intro j rfl h hk
theorem in_map {α : Type} {f : α → AV} {l : List α} {j : Nat} {K : Nat → Prop} (h : j < l.length) (hk : K j) : In (j : Int) (l.map f).length K := In.intro j rfl (by simpa using h) hk
theorem ix_map {α : Type} {f : α → AV} {l : List α} {i : Nat} {K : AV → Prop} {r : α} (h : l[i]? = some r) (hk : K (f r)) : Ix (l.map f) i K := Ix.intro (by simp [h]) hk
theorem ix_any {α : Type} {f : α → AV} {l : List α} {i : Nat} {K : AV → Prop} (hi : i < l.length) (hk : ∀ r, l[i]? = some r → K (f r)) : Ix (l.map f) i K := ix_map (List.getElem?_eq_getElem hi) (hk _ (List.getElem?_eq_getElem hi))
theorem sl_full {xs : List AV} {len : Nat} {K : List AV → Prop} (h : xs.length = len) (hk : K xs) : Sl xs 0 len K :=
  Sl.intro (by omega) (by rw [List.drop_zero, ← h, List.take_length]) hk
theorem sl_map {α : Type} {f : α → AV} {l : List α} {off len : Nat} {K : List AV → Prop} (h : off + len ≤ l.length) (hk : K (((l.drop off).take len).map f)) : Sl (l.map f) off len K :=
  Sl.intro (by simpa using h) (by rw [List.map_take, List.map_drop]) hk
theorem wr_i64 {e r : Int} {K : Int → Prop} (h0 : e = r) (h1 : -9223372036854775808 ≤ r) (h2 : r ≤ 9223372036854775807) (hk : K r) : Wr .i64 e K := by
  subst h0
  refine Wr.intro ?_ hk
  simp only [IntKind.wrap, IntKind.signed, IntKind.bits]; simp; omega
theorem wr_u64 {e r : Int} {K : Int → Prop} (h0 : e = r) (h1 : 0 ≤ r) (h2 : r ≤ 18446744073709551615) (hk : K r) : Wr .u64 e K := by
  subst h0
  refine Wr.intro ?_ hk
  simp only [IntKind.wrap, IntKind.signed, IntKind.bits]; simp; omega
theorem wr_u64_any {e : Int} {K : Int → Prop} (h : ∀ r, 0 ≤ r → r ≤ 18446744073709551615 → K r) : Wr .u64 e K := by
  refine Wr.intro rfl (h _ ?_ ?_)
  · simp only [IntKind.wrap, IntKind.signed, IntKind.bits]; simp; omega
  · simp only [IntKind.wrap, IntKind.signed, IntKind.bits]; simp; omega
theorem wr_u32_any {e : Int} {K : Int → Prop} (h : ∀ r, 0 ≤ r → r ≤ 4294967295 → K r) : Wr .u32 e K := by
  refine Wr.intro rfl (h _ ?_ ?_)
  · simp only [IntKind.wrap, IntKind.signed, IntKind.bits]; simp; omega
  · simp only [IntKind.wrap, IntKind.signed, IntKind.bits]; simp; omega
theorem wr_any {k : IntKind} {e : Int} {K : Int → Prop} (h : ∀ r, K r) : Wr k e K := Wr.intro rfl (h _)
theorem wr_u32 {e r : Int} {K : Int → Prop} (h0 : e = r) (h1 : 0 ≤ r) (h2 : r ≤ 4294967295) (hk : K r) : Wr .u32 e K := by
  subst h0
  refine Wr.intro ?_ hk
  simp only [IntKind.wrap, IntKind.signed, IntKind.bits]; simp; omega

/-- y says no more of a value than x -/
def Weak (x y : AV) : Prop := ∀ (E : Nat → Prop) (w : World) (ι : Inj) (v : Value), Rel E w ι x v → Rel E w ι y v
theorem Weak.refl {x : AV} : Weak x x := fun _ _ _ _ h => h
theorem Weak.bool {b : Bool} : Weak (.v (.bool b)) (.sb b) := fun _ _ _ v h => by cases h; exact .sb b
theorem Weak.nils : Weak .nils (.lst []) := fun _ _ _ v h => by cases h; exact .lnil none 0
theorem Weak.tup2 {a b a' b' : AV} (h1 : Weak a a') (h2 : Weak b b') : Weak (.tup [a, b]) (.tup [a', b']) := fun E w ι v h => by
  cases h with
  | tup _ c hs h =>
    refine .tup _ _ hs (fun i x y hx hy => ?_)
    match i with
    | 0 => simp at hx; subst hx; exact h1 _ _ _ _ (h 0 a y rfl hy)
    | 1 => simp at hx; subst hx; exact h2 _ _ _ _ (h 1 b y rfl hy)
    | n + 2 => simp at hx
theorem ACall.weak {P : Program} {f : FuncId} {args : List AV} {hs : List Obj} {K : AV → List Obj → Prop} (h : ACall P f args hs fun r hs' => ∃ y, Weak r y ∧ K y hs') : ACall P f args hs K := by
  obtain ⟨h1, h2⟩ := h.elim
  refine ACall.intro h1 fun ι E w vals r hv => (h2 ι E w vals r hv).mono ?_
  rintro e w' ⟨v, rr, hs', ι', E', he, ⟨y, hy, hk⟩, hr, hrel, hx⟩
  exact ⟨v, y, hs', ι', E', he, hk, hr, hy _ _ _ _ hrel, hx⟩
/-- a result that is a Bool -/
theorem ACall.bool {P : Program} {f : FuncId} {args : List AV} {hs : List Obj} {K : AV → List Obj → Prop} (h : ACall P f args hs fun r hs' => (∃ b, r = .v (.bool b) ∧ K (.sb b) hs') ∨ (∃ b, r = .sb b ∧ K (.sb b) hs')) : ACall P f args hs K :=
  ACall.weak (h.mono fun r hs' hh => by
    rcases hh with ⟨b, rfl, h⟩ | ⟨b, rfl, h⟩
    · exact ⟨_, Weak.bool, h⟩
    · exact ⟨_, Weak.refl, h⟩)

/-- arguments of which less is said -/
def WeakL : List AV → List AV → Prop
  | [], [] => True
  | x :: xs, y :: ys => Weak x y ∧ WeakL xs ys
  | _, _ => False
theorem WeakL.rel {E : Nat → Prop} {w : World} {ι : Inj} : ∀ {xs ys : List AV} {c : Array Value}, WeakL xs ys → RL E w ι xs c → RL E w ι ys c
  | [], [], c, _, h => h
  | x :: xs, y :: ys, c, hw, h => by
    obtain ⟨v, vs, rfl, h1, h2⟩ := h.head
    exact RL.cons (hw.1 _ _ _ _ h1) (WeakL.rel hw.2 h2)
  | [], _ :: _, _, hw, _ => hw.elim
  | _ :: _, [], _, hw, _ => hw.elim
theorem ACall.args {P : Program} {f : FuncId} {xs ys : List AV} {hs : List Obj} {K : AV → List Obj → Prop} (hw : WeakL xs ys) (h : ACall P f ys hs K) : ACall P f xs hs K := by
  obtain ⟨h1, h2⟩ := h.elim
  exact ACall.intro h1 fun ι E w vals r hv => h2 ι E w vals r (hw.rel hv)

/-! what an evaluation asks for is shown by the tactic that stands here -/
theorem gA {p : Prop} (h : p := by (first | with_reducible exact Nat.le_refl _ | with_reducible rfl | omega | (simp only [List.length_append, List.length_map, List.length_take, List.length_drop, List.length_cons, List.length_nil, List.length_set]; done) | (simp only [List.length_append, List.length_map, List.length_take, List.length_drop, List.length_cons, List.length_nil, List.length_set]; omega))) : p := h
theorem gB {p : Prop} (h : p := by (first | with_reducible assumption | omega | (simp only [List.length_append, List.length_map, List.length_take, List.length_drop, List.length_cons, List.length_nil, List.length_set]; omega))) : p := h
theorem gC {p : Prop} (h : p := by first | (as_aux_lemma => kernel_rfl) | ((try simp only [List.forall_mem_append, List.forall_mem_map, List.forall_mem_cons, List.forall_mem_nil, and_true, true_and]); (repeat' apply And.intro) <;> first | (intros; rfl) | omega | (simp only [List.length_append, List.length_map, List.length_take, List.length_drop, List.length_cons, List.length_nil, List.length_set]; omega) | (intro _ h; cases h))) : p := h

end Go.Vm

set_option linter.unusedVariables false
set_option linter.unusedSimpArgs false
namespace Go.Vm
open Go.RowKit

/-- what a call leaves as it was: all that was there -/
structure Stay (W w' : World) : Prop where
  kept : W.keptBut w' (fun _ => False)
  mark : ∀ a, a.block < W.heap.size → w'.frozen? a = W.frozen? a
  heap : ∀ b, b < W.heap.size → w'.heap[b]? = W.heap[b]?

/-- A function of which the contract says: it answers true. -/
theorem ACall.law {P : Program} {f : FuncId} {args : List AV} {vals : Array Value} {w : World} (h : ACall P f args [] fun r _ => r = .sb true ∨ r = .v (.bool true)) (hv : RL (fun _ => False) w noInj args vals) :
    Calls P f vals w fun e w' => e = .returned (.bool true) ∧ Stay w w' := by
  obtain ⟨_, h2⟩ := h.elim
  have r : Rep noInj (fun _ => False) w ([] : List Obj).length (enumH 0 []) := ⟨fun _ _ => rfl, fun id o hg => by simp [enumH, get] at hg, fun id id' o o' b base base' hg => by simp [enumH, get] at hg, fun b hb => hb.elim⟩
  refine (h2 noInj _ w vals r hv).mono ?_
  rintro e w' ⟨v, rv, hs', ι', E', rfl, hk, _, hr, x⟩
  have hno : ∀ b, ¬ Own noInj (enumH 0 []) b := fun b ⟨id, o, base, hg, _⟩ => by simp [enumH, get] at hg
  refine ⟨?_, ?_, x.mark, fun b hb => (x.old b hb (hno b)).1⟩
  · rcases hk with rfl | rfl
    · cases hr; rfl
    · cases hr; rfl
  · refine ⟨x.os, x.output, fun i hi => ?_⟩
    have e := (x.old i hi (hno i)).1
    rw [e]
    cases w.heap[i]? with
    | none => rfl
    | some o =>
      cases o with
      | cells c t fr => exact ⟨rfl, rfl, rfl, fun _ _ => rfl⟩
      | map es cl => exact .inr ⟨rfl, rfl⟩
      | _ => rfl

theorem Stay.sameAt {W w' : World} (h : Stay W w') {p : MemPlace} (hp : p.block < W.heap.size) : W.sameAt w' p := by
  cases p with
  | cell b o => exact cell_of_heap (a := ⟨b, o, none⟩) (h.heap b hp)
  | map b => exact h.heap b hp

section
open Go.ChangeShapes Go.WideShapes
variable {H : Type} {enc : TypeId × Value → H} {P : Program}

/-- the closed facts on the types of the parameters -/
def parsOk (P : Program) (ts : List TypeId) : Bool := ts.all fun t => P.readableRec t && decide (t < P.types.size)

theorem stay_args {W W' : World} (hst : Stay W W') (hl : laidOutB P = true) {sp : Nat → Bool} : ∀ {ts : List TypeId} {vs : List Value} {ds : List (DataW H)} {ps : List MemPlace}, parsOk P ts = true →
    DataW.TrodAll enc P W 0 (fun _ => true) true ts vs ds ps → (∀ p ∈ ps, p.block < W.heap.size ∧ sp p.block = true) → DataW.TrodAll enc P W' 0 sp true ts vs ds ps
  | [], vs, ds, ps, _, h, _ => by
    match vs, ds, h with
    | [], [], h => exact h
  | t :: ts, vs, ds, ps, hp, h, hs => by
    match vs, ds, h with
    | v :: vs, d :: ds, h =>
      obtain ⟨p, q, h1, h2, rfl⟩ := h
      simp only [parsOk, List.all_cons, Bool.and_eq_true, decide_eq_true_eq] at hp
      exact ⟨p, q, WideElems.Trod_stays hl hp.1.1 hp.1.2 h1 (fun x hx => hst.sameAt (hs x (List.mem_append_left _ hx)).1) (fun x hx => (hs x (List.mem_append_left _ hx)).2),
        stay_args hst hl hp.2 h2 (fun x hx => hs x (List.mem_append_right _ hx)), rfl⟩

/-- WHAT A LAW's STATEMENT WANTS: it answered true, everything stays. -/
theorem law_post {f : Func} {s : ChangeSpec} {W W' : World} {args : Array Value} {ds gs : List (DataW H)} {before : List MemPlace} {t : TypeId}
    (hW : DataW.Whole enc P f.params.toList s.vars false W args.toList ds gs before) (hst : Stay W W') (hl : laidOutB P = true) (hp : parsOk P f.params.toList = true) (hv : s.vars = [])
    (hs : s.fn H (ds ++ gs) = { results := [.lit (.bool true)], args := ds }) (hr : f.resultTypes = #[t]) (ht : P.underlying t = some .bool) :
    s.post enc P f false true false false W args (.bool true) W' := by
  have hlt := fun p hp => hW.lt (p := p) hp
  have hW1 := hW
  obtain ⟨pa, pv, hA, hV, hps, hz, hn⟩ := hW
  have hpv : pv = [] ∧ gs = [] := by
    rw [hv] at hV
    obtain ⟨rfl, rfl⟩ := trodVars_none hV
    exact ⟨rfl, rfl⟩
  obtain ⟨rfl, rfl⟩ := hpv
  simp only [List.append_nil] at hps hs
  subst hps
  have args' : ∀ sp : Nat → Bool, (∀ p ∈ before, sp p.block = true) → DataW.TrodAll enc P W' 0 sp true f.params.toList args.toList ds before :=
    fun sp hsp => stay_args hst hl hp hA fun p hp => ⟨hlt p hp, hsp p hp⟩
  have res : ∀ (b : Nat) (sp : Nat → Bool) (hd : Bool), DataW.TrodAll enc P W' b sp hd f.resultTypes.toList ((Value.bool true).resultList f.resultTypes.size) [.lit (.bool true)] [] := by
    intro b sp hd
    rw [hr]
    exact trodAll_cons_mk (shut_bool ht true) trodAll_mk0
  have vars : ∀ sp : Nat → Bool, DataW.TrodVars enc P W' sp s.vars ([] : List (DataW H)) [] := by
    intro sp; rw [hv]; exact rfl
  have hvars : (s.fn H (ds ++ [])).vars = [] := by rw [List.append_nil, hs]
  have e0 : s.fn H (ds ++ []) = { results := [.lit (.bool true)], args := ds } := by rw [List.append_nil]; exact hs
  refine ⟨ds, [], before, [], before, [], hW1, ?_, ?_, ?_, World.keptBut_mono (fun _ f => f.elim) hst.kept, fun _ => ?_⟩
  · rw [e0]; exact res _ _ _
  · rw [e0]; exact args' _ (fun p hp => by simpa using hlt p hp)
  · rw [e0]; exact vars _
  · refine ⟨ok_one hr rfl (okWide_bool_mk ht _), [.lit (.bool true)] ++ ds, [], ([] ++ before) ++ [], ⟨[] ++ before, [], trodAll_append (args' _ (fun _ _ => rfl)) (res _ _ _), vars _, rfl, ?_, ?_⟩, ?_⟩
    · intro b off hp
      simp only [List.nil_append, List.append_nil] at hp
      rw [hst.mark _ (hlt _ hp)]
      exact hz b off hp
    · intro ha; cases ha
    · intro p hp _
      simpa using hp

end
end Go.Vm

set_option linter.unusedVariables false
set_option linter.unusedSimpArgs false
namespace Go.Vm
open Go.ChangeShapes Go.WideShapes

/-- x is what a value of type t looks like that is read only -/
def Ty (P : Program) : Nat → TypeId → AV → Prop
  | 0, _, _ => False
  | n + 1, t, x => match P.underlying t with
    | some .bool => ∃ b, x = .sb b
    | some (.int k) => ∃ i, x = .v (.int k i) ∧ k.min ≤ i ∧ i ≤ k.max
    | some .string => ∃ s, x = .v (.string s) ∧ s.size ≤ maxLen
    | some (.slice e) => ∃ xs, x = .lst xs ∧ xs.length ≤ maxLen ∧ ∀ y, y ∈ xs → Ty P n e y
    | some (.struct fs) => ∃ ys : List AV, ys.length = fs.size ∧ x = .agg (ys.flatMap AV.cells) ∧ ∀ (i : Nat) f y, fs[i]? = some f → ys[i]? = some y → Ty P n f.type y
    | some (.array m e) => ∃ ys : List AV, ys.length = m ∧ x = .agg (ys.flatMap AV.cells) ∧ ∀ y, y ∈ ys → Ty P n e y
    | _ => False

/-- the fields lie one behind the other, from off on, up to the end -/
def fieldsLie (P : Program) (tot : Nat) : Nat → List Field → Bool
  | off, [] => decide (off = tot)
  | off, f :: fs => decide (f.offset = off) && fieldsLie P tot (off + P.cellsOf f.type) fs
/-- a type that the bridge covers -/
def tyOk (P : Program) : Nat → TypeId → Bool
  | 0, _ => false
  | n + 1, t => match P.underlying t with
    | some .bool => true
    | some (.int _) => true
    | some .string => true
    | some (.slice e) => decide (0 < P.cellsOf e) && tyOk P n e
    | some (.struct fs) => fieldsLie P (P.cellsOf t) 0 fs.toList && fs.toList.all fun f => tyOk P n f.type
    | some (.array m e) => decide (P.cellsOf t = m * P.cellsOf e) && tyOk P n e
    | _ => false

def NoE : Nat → Prop := fun _ => False

section
variable {H : Type} {enc : TypeId × Value → H} {P : Program} {w : World} {held : Bool}

theorem RL.app {E : Nat → Prop} {ι : Inj} {xs ys : List AV} {as bs : List Value} (h1 : RL E w ι xs as.toArray) (h2 : RL E w ι ys bs.toArray) : RL E w ι (xs ++ ys) (as ++ bs).toArray := by
  have l1 : xs.length = as.length := by simpa using h1.1
  have l2 : ys.length = bs.length := by simpa using h2.1
  refine ⟨by simp [l1, l2], fun i x y hx hy => ?_⟩
  have hy : (as ++ bs)[i]? = some y := by simpa using hy
  rcases Nat.lt_or_ge i xs.length with hi | hi
  · rw [List.getElem?_append_left hi] at hx
    rw [List.getElem?_append_left (by omega)] at hy
    exact h1.2 i x y hx (by simpa using hy)
  · rw [List.getElem?_append_right hi] at hx
    rw [List.getElem?_append_right (by omega)] at hy
    exact h2.2 (i - xs.length) x y hx (by rw [l1]; simpa using hy)

theorem RL.one {E : Nat → Prop} {ι : Inj} {x : AV} {v : Value} (h : Rel E w ι x v) : RL E w ι [x] [v].toArray :=
  ⟨rfl, fun i a b ha hb => by
    match i with
    | 0 => simp at ha hb; subst ha; subst hb; exact h
    | n + 1 => simp at ha⟩

/-- cells that lie in a row, part by part -/
theorem parts_rel {fs : List Field} {cs : List Value} {tot : Nat} {Q : Field → AV → Prop} : ∀ {off : Nat}, off ≤ tot → cs.length = tot → fieldsLie P tot off fs = true →
    (∀ f, f ∈ fs → ∃ y, Q f y ∧ RL NoE w noInj y.cells ((cs.drop f.offset).take (P.cellsOf f.type)).toArray) →
    ∃ ys : List AV, ys.length = fs.length ∧ RL NoE w noInj (ys.flatMap AV.cells) (cs.drop off).toArray ∧ ∀ (i : Nat) f y, fs[i]? = some f → ys[i]? = some y → Q f y := by
  induction fs with
  | nil =>
    intro off hoff hl hf _
    simp only [fieldsLie, decide_eq_true_eq] at hf
    refine ⟨[], rfl, ⟨by simp; omega, fun i x y hx => by simp at hx⟩, fun i f y hf => by simp at hf⟩
  | cons f fs ih =>
    intro off hoff hl hf h
    simp only [fieldsLie, Bool.and_eq_true, decide_eq_true_eq] at hf
    obtain ⟨h1, h2⟩ := hf
    obtain ⟨y, q1, q2⟩ := h f (by simp)
    have hle : off + P.cellsOf f.type ≤ tot := by
      have mono : ∀ (fs : List Field) (o : Nat), fieldsLie P tot o fs = true → o ≤ tot := by
        intro fs
        induction fs with
        | nil => intro o ho; simp only [fieldsLie, decide_eq_true_eq] at ho; omega
        | cons g gs ihg =>
          intro o ho
          simp only [fieldsLie, Bool.and_eq_true, decide_eq_true_eq] at ho
          have := ihg _ ho.2
          omega
      exact mono fs _ h2
    obtain ⟨ys, a1, a2, a3⟩ := ih hle hl h2 (fun g hg => h g (by simp [hg]))
    refine ⟨y :: ys, by simp [a1], ?_, fun i g z hg hz => ?_⟩
    · rw [h1] at q2
      have e : cs.drop off = (cs.drop off).take (P.cellsOf f.type) ++ cs.drop (off + P.cellsOf f.type) := by
        rw [← List.drop_drop, List.take_append_drop]
      rw [e, List.flatMap_cons]
      exact q2.app a2
    · cases i with
      | zero => simp at hg hz; subst hg; subst hz; exact q1
      | succ i => exact a3 i g z (by simpa using hg) (by simpa using hz)

theorem rows_rel {m n : Nat} {cs : List Value} {Q : AV → Prop} (hl : cs.length = m * n) (h : ∀ i, i < m → ∃ y, Q y ∧ RL NoE w noInj y.cells ((cs.drop (i * n)).take n).toArray) :
    ∃ ys : List AV, ys.length = m ∧ RL NoE w noInj (ys.flatMap AV.cells) cs.toArray ∧ ∀ y, y ∈ ys → Q y := by
  induction m generalizing cs with
  | zero =>
    have : cs = [] := List.eq_nil_of_length_eq_zero (by omega)
    subst this
    exact ⟨[], rfl, ⟨rfl, fun i x y hx => by simp at hx⟩, fun y hy => by simp at hy⟩
  | succ m ih =>
    obtain ⟨y, q1, q2⟩ := h 0 (by omega)
    obtain ⟨ys, a1, a2, a3⟩ := ih (cs := cs.drop n) (by rw [List.length_drop, hl, Nat.succ_mul]; omega) (fun i hi => by
      obtain ⟨z, b1, b2⟩ := h (i + 1) (by omega)
      refine ⟨z, b1, ?_⟩
      rw [List.drop_drop, show n + i * n = (i + 1) * n by rw [Nat.succ_mul]; omega]
      exact b2)
    refine ⟨y :: ys, by simp [a1], ?_, fun z hz => ?_⟩
    · have e : cs = cs.take n ++ cs.drop n := (List.take_append_drop _ _).symm
      rw [e, List.flatMap_cons]
      simp only [Nat.zero_mul, List.drop_zero] at q2
      exact q2.app a2
    · rcases List.mem_cons.1 hz with rfl | hz
      · exact q1
      · exact a3 z hz

theorem list_of_fun {n : Nat} {Q : Nat → AV → Prop} (h : ∀ i, i < n → ∃ y, Q i y) : ∃ ys : List AV, ys.length = n ∧ ∀ (i : Nat) y, ys[i]? = some y → Q i y := by
  induction n with
  | zero => exact ⟨[], rfl, fun i y hy => by simp at hy⟩
  | succ n ih =>
    obtain ⟨ys, h1, h2⟩ := ih (fun i hi => h i (by omega))
    obtain ⟨y, hy⟩ := h n (by omega)
    refine ⟨ys ++ [y], by simp [h1], fun i z hz => ?_⟩
    rcases Nat.lt_or_ge i ys.length with hi | hi
    · rw [List.getElem?_append_left hi] at hz; exact h2 i z hz
    · rw [List.getElem?_append_right hi] at hz
      have : i - ys.length = 0 := by
        rcases Nat.eq_zero_or_pos (i - ys.length) with h0 | h0
        · exact h0
        · rw [List.getElem?_eq_none (by simp; omega)] at hz; cases hz
      rw [this] at hz
      simp at hz
      subst hz
      have : i = n := by omega
      subst this
      exact hy

theorem rel_of_trod : ∀ (d : Nat) {t : TypeId} {fuel : Nat} {cs : List Value} {x : DataW H × List MemPlace}, tyOk P d t = true → DataW.trod enc P w 0 (fun _ => true) held fuel t cs = some x →
    ∃ a, Ty P d t a ∧ RL NoE w noInj a.cells cs.toArray
  | 0, t, fuel, cs, x, ht, _ => by simp [tyOk] at ht
  | d + 1, t, fuel, cs, x, ht, h => by
    simp only [tyOk] at ht
    simp only [Ty]
    cases hu : P.underlying t with
    | none => simp [hu] at ht
    | some D =>
      simp only [hu] at ht ⊢
      cases D with
      | bool =>
        obtain ⟨b, rfl, _⟩ := DataW.trod_bool hu h
        exact ⟨.sb b, ⟨b, rfl⟩, RL.one (.sb b)⟩
      | int k =>
        obtain ⟨n, rfl, _, hw⟩ := DataW.trod_int hu h
        simp only [Lit.wf, Bool.and_eq_true, decide_eq_true_eq] at hw
        exact ⟨.v (.int k n), ⟨n, rfl, hw⟩, RL.one (.v _)⟩
      | string =>
        obtain ⟨s, rfl, _, hs⟩ := DataW.trod_string hu h
        exact ⟨.v (.string s), ⟨s, rfl, hs⟩, RL.one (.v _)⟩
      | slice e =>
        simp only [Bool.and_eq_true, decide_eq_true_eq] at ht
        rcases DataW.trod_slice hu h with ⟨rfl, _⟩ | ⟨a, len, cap, elems, rest, n, _, rfl, _, hb, hlc, hcm, hel, hget, _, _⟩
        · exact ⟨.lst [], ⟨[], rfl, by simp, fun y hy => by simp at hy⟩, RL.one (.lnil none 0)⟩
        · have each : ∀ i, i < len → ∃ y, Ty P d e y ∧ ∃ cs', w.cells? 0 (a.add (i * P.cellsOf e)) (P.cellsOf e) = some cs' ∧ RL NoE w noInj y.cells cs'.toArray := by
            intro i hi
            have hx := hget i hi
            rw [List.getElem?_eq_getElem (show i < elems.length by omega), Option.bind_eq_some_iff] at hx
            obtain ⟨cs', h1, h2⟩ := hx
            obtain ⟨y, h3, h4⟩ := rel_of_trod d ht.2 h2
            exact ⟨y, h3, cs', h1, h4⟩
          obtain ⟨ys, l1, l2⟩ := list_of_fun each
          refine ⟨.lst ys, ⟨ys, rfl, by omega, fun y hy => ?_⟩, RL.one ?_⟩
          · obtain ⟨i, hi⟩ := List.getElem?_of_mem hy
            exact (l2 i y hi).1
          · rcases Nat.eq_zero_or_pos len with h0 | h0
            · have : ys = [] := List.eq_nil_of_length_eq_zero (by omega)
              subst this; subst h0
              exact .lnil _ _
            · have hcell : ∀ (i : Nat) y (j : Nat) c, ys[i]? = some y → y.cells[j]? = some c → ∃ u, w.cell? ((a.add (i * P.cellsOf e)).add j) = some u ∧ Rel NoE w noInj c u := by
                intro i y j c hy hc
                obtain ⟨_, cs', c1, c2⟩ := l2 i y hy
                obtain ⟨_, c3, c4⟩ := World.cells?_some c1
                have hj : j < y.cells.length := (List.getElem?_eq_some_iff.1 hc).1
                have hj' : j < cs'.length := by have := c2.1; simp at this; omega
                rw [c4 j (by omega), List.getElem?_eq_getElem hj']
                exact ⟨_, rfl, c2.2 j c _ hc (by simp [hj'])⟩
              have hlenc : ∀ (i : Nat) y, ys[i]? = some y → y.cells.length = P.cellsOf e := by
                intro i y hy
                obtain ⟨_, cs', c1, c2⟩ := l2 i y hy
                obtain ⟨_, c3, c4⟩ := World.cells?_some c1
                have := c2.1; simp at this; omega
              have h00 : ys[0]? = some (ys[0]'(by omega)) := List.getElem?_eq_getElem _
              have hc0 : ((ys[0]'(by omega)).cells)[0]? = some (((ys[0]'(by omega)).cells)[0]'(by rw [hlenc 0 _ h00]; exact ht.1)) := List.getElem?_eq_getElem _
              obtain ⟨u0, hu0, _⟩ := hcell 0 _ 0 _ h00 hc0
              have hs : a.spot = none := by
                simp only [Nat.zero_mul, Addr.add, if_true] at hu0
                cases hsp : a.spot with
                | none => rfl
                | some k =>
                  unfold World.cell? at hu0
                  rw [hsp] at hu0
                  split at hu0
                  · simp at hu0
                  · cases hu0
              obtain ⟨b, off, spot⟩ := a
              simp only at hs
              subst hs
              have hadd : ∀ i j : Nat, ((⟨b, off, none⟩ : Addr).add (i * P.cellsOf e)).add j = ⟨b, off + i * P.cellsOf e + j, none⟩ := by
                intro i j
                simp only [Addr.add]
                by_cases h1 : i * P.cellsOf e = 0 <;> by_cases h2 : j = 0 <;> simp [h1, h2]
              refine .lst ys b off len cap (P.cellsOf e) (fun hh => hh) ?_ l1.symm hlc hlenc (fun i j => (w.cell? ⟨b, off + i * P.cellsOf e + j, none⟩).getD (.bool false)) (fun i y j c hy hc => ?_) (fun i y j c hy hc => ?_)
              · rw [hadd] at hu0
                exact lt_of_cell (a := ⟨b, _, none⟩) (by rw [hu0]; rfl)
              · obtain ⟨u, e1, _⟩ := hcell i y j c hy hc
                rw [hadd] at e1
                rw [e1]; rfl
              · obtain ⟨u, e1, e2⟩ := hcell i y j c hy hc
                rw [hadd] at e1
                simp only [e1, Option.getD_some]
                exact e2
      | struct fs =>
        simp only [Bool.and_eq_true, List.all_eq_true] at ht
        obtain ⟨xs, n, _, _, hl, _, hf⟩ := DataW.trod_struct hu h
        obtain ⟨ys, a1, a2, a3⟩ := parts_rel (w := w) (cs := cs) (Q := fun f y => Ty P d f.type y) (Nat.zero_le _) hl ht.1 (fun f hf' => by
          obtain ⟨i, hi⟩ := List.getElem?_of_mem hf'
          have hi' : fs[i]? = some f := by simpa using hi
          have hlt : i < fs.size := (Array.getElem?_eq_some_iff.1 hi').1
          have e1 := hf i f hi'
          rw [List.getElem?_eq_getElem (show i < xs.length by omega)] at e1
          exact rel_of_trod d (ht.2 f hf') e1)
        refine ⟨.agg (ys.flatMap AV.cells), ⟨ys, by simpa using a1, rfl, fun i f y hfi hy => a3 i f y (by simpa using hfi) hy⟩, ?_⟩
        simpa [AV.cells] using a2
      | array m e =>
        simp only [Bool.and_eq_true, decide_eq_true_eq] at ht
        obtain ⟨xs, n, _, _, hl, hlx, hf⟩ := DataW.trod_array hu h
        obtain ⟨ys, a1, a2, a3⟩ := rows_rel (w := w) (cs := cs) (Q := fun y => Ty P d e y) (hl.trans ht.1) (fun i hi => by
          have e1 := hf i hi
          rw [List.getElem?_eq_getElem (show i < xs.length by omega)] at e1
          exact rel_of_trod d ht.2 e1)
        exact ⟨.agg (ys.flatMap AV.cells), ⟨ys, a1, rfl, a3⟩, a2⟩
      | _ => simp at ht

/-- an argument -/
theorem rel_of_arg {d : Nat} {t : TypeId} {v : Value} {x : DataW H} {ps : List MemPlace} {base : Nat} (ht : tyOk P d t = true) (hval : Value.okWide P w .any base t v) (h : DataW.Trod enc P w 0 (fun _ => true) held t v x ps) :
    ∃ a, Ty P d t a ∧ Rel NoE w noInj a v := by
  obtain ⟨fuel, hf⟩ := h
  obtain ⟨a, h1, h2⟩ := rel_of_trod d ht hf
  refine ⟨a, h1, ?_⟩
  have single : ∀ {u : Value}, v = u → u.cells = #[u] → a.cells = [a] → Rel NoE w noInj a v := by
    rintro u rfl e1 e2
    rw [e1, e2] at h2
    exact h2.2 0 a v rfl rfl
  cases d with
  | zero => exact h1.elim
  | succ d =>
    simp only [Ty] at h1
    cases hu : P.underlying t with
    | none => simp [hu] at h1
    | some D =>
      simp only [hu] at h1
      cases D with
      | bool =>
        obtain ⟨b, rfl⟩ := h1
        obtain ⟨b', hv⟩ := okWide_bool hu hval
        exact single hv rfl rfl
      | int k =>
        obtain ⟨b, rfl, _⟩ := h1
        obtain ⟨b', hv⟩ := okWide_int hu hval
        exact single hv rfl rfl
      | string =>
        obtain ⟨b, rfl, _⟩ := h1
        obtain ⟨b', hv⟩ := okWide_string hu hval
        exact single hv rfl rfl
      | slice e =>
        obtain ⟨b, rfl, _⟩ := h1
        obtain ⟨_, _, _, hv⟩ := okWide_slice hu hval
        exact single hv rfl rfl
      | struct fs =>
        obtain ⟨ys, _, rfl, _⟩ := h1
        obtain ⟨cs, rfl, _⟩ := okWide_struct hu hval
        exact .agg _ _ (by simpa [AV.cells, Value.cells] using h2.1) (by simpa [AV.cells, Value.cells] using h2.2)
      | array m e =>
        obtain ⟨ys, _, rfl, _⟩ := h1
        simp only [Value.okWide, hu] at hval
        obtain ⟨cs, rfl, _⟩ := hval
        exact .agg _ _ (by simpa [AV.cells, Value.cells] using h2.1) (by simpa [AV.cells, Value.cells] using h2.2)
      | _ => exact h1.elim

/-- the arguments' types -/
def Tys (P : Program) (d : Nat) : List TypeId → List AV → Prop
  | [], [] => True
  | t :: ts, a :: as => Ty P d t a ∧ Tys P d ts as
  | _, _ => False

theorem rel_of_args {d base : Nat} : ∀ {ts : List TypeId} {vs : List Value} {xs : List (DataW H)} {ps : List MemPlace}, (ts.all fun t => tyOk P d t) = true →
    (∀ (j : Nat) t v, ts[j]? = some t → vs[j]? = some v → Value.okWide P w .any base t v) → DataW.TrodAll enc P w 0 (fun _ => true) held ts vs xs ps →
    ∃ as, Tys P d ts as ∧ RL NoE w noInj as vs.toArray
  | [], vs, xs, ps, _, _, h => by
    match vs, xs, h with
    | [], [], h => exact ⟨[], trivial, ⟨rfl, fun i x y hx => by simp at hx⟩⟩
  | t :: ts, vs, xs, ps, ht, hval, h => by
    match vs, xs, h with
    | v :: vs, x :: xs, h =>
      obtain ⟨p, q, h1, h2, rfl⟩ := h
      simp only [List.all_cons, Bool.and_eq_true] at ht
      obtain ⟨a, a1, a2⟩ := rel_of_arg ht.1 (hval 0 t v rfl rfl) h1
      obtain ⟨as, b1, b2⟩ := rel_of_args (base := base) ht.2 (fun j t v hj hv => hval (j + 1) t v hj hv) h2
      exact ⟨a :: as, ⟨a1, b1⟩, RL.app (RL.one a2) b2⟩

/-- THE CONTRACT OF A LAW, OUT OF THE MACHINE's. -/
theorem law_contract {f : FuncId} {fn : Func} {s : ChangeSpec} {d base : Nat} {t : TypeId} (hl : laidOutB P = true) (hp : parsOk P fn.params.toList = true) (hty : (fn.params.toList.all fun t => tyOk P d t) = true) (hv : s.vars = [])
    (hr : fn.resultTypes = #[t]) (ht : P.underlying t = some .bool) (hs : ∀ ds : List (DataW H), ds.length = fn.params.size → s.fn H ds = { results := [.lit (.bool true)], args := ds })
    (hc : ∀ as, Tys P d fn.params.toList as → ACall P f as [] fun r _ => r = .sb true ∨ r = .v (.bool true))
    {W : World} {args : Array Value} {ds gs : List (DataW H)} {before : List MemPlace} (hval : ∀ (j : Nat) t v, fn.params[j]? = some t → args[j]? = some v → Value.okWide P W .any base t v)
    (hW : DataW.Whole enc P fn.params.toList s.vars false W args.toList ds gs before) :
    Calls P f args W fun e W' => ∃ v, e = .returned v ∧ s.post enc P fn false true false false W args v W' := by
  have hW1 := hW
  obtain ⟨pa, pv, hA, hV, hps, _, _⟩ := hW
  have hgs : gs = [] := by
    rw [hv] at hV
    obtain ⟨rfl, rfl⟩ := trodVars_none hV
    rfl
  subst hgs
  obtain ⟨as, h1, h2⟩ := rel_of_args (d := d) (base := base) hty (fun j t v hj hv => hval j t v (by simpa using hj) (by simpa using hv)) hA
  have hlen : ∀ {ts : List TypeId} {vs : List Value} {xs : List (DataW H)} {ps : List MemPlace}, DataW.TrodAll enc P W 0 (fun _ => true) true ts vs xs ps → xs.length = ts.length := by
    intro ts
    induction ts with
    | nil => intro vs xs ps h; match vs, xs, h with | [], [], _ => rfl
    | cons t ts ih =>
      intro vs xs ps h
      match vs, xs, h with
      | v :: vs, x :: xs, h =>
        obtain ⟨p, q, _, h2, _⟩ := h
        simp [ih h2]
  have hl2 := hlen hA
  refine (ACall.law (hc as h1) (show RL NoE W noInj as args by simpa using h2)).mono ?_
  rintro e W' ⟨rfl, hst⟩
  exact ⟨_, rfl, law_post hW1 hst hl hp hv (by rw [List.append_nil]; exact hs ds (by simpa using hl2)) hr ht⟩

end
end Go.Vm

set_option linter.unusedVariables false
set_option linter.unusedSimpArgs false
namespace Go.Vm

theorem wrap_u32 {n : Int} (h0 : 0 ≤ n) (h1 : n ≤ 4294967295) : IntKind.u32.wrap n = n := by
  simp only [IntKind.wrap, IntKind.signed, IntKind.bits]; simp; omega
theorem bv32 {a : Nat} (h : a < 4294967296) : (BitVec.ofInt 32 (a : Int)).toNat = a := by
  rw [BitVec.ofInt_natCast, BitVec.toNat_ofNat]; exact Nat.mod_eq_of_lt h
theorem mask_not (k : Nat) (hk : k ≤ 32) : ~~~(BitVec.ofInt 32 (4294967296 - ((2 ^ k : Nat) : Int))) = BitVec.ofNat 32 (2 ^ k - 1) := by
  have : ∀ k : Fin 33, ~~~(BitVec.ofInt 32 (4294967296 - ((2 ^ k.val : Nat) : Int))) = BitVec.ofNat 32 (2 ^ k.val - 1) := by decide
  exact this ⟨k, by omega⟩
theorem p32 {k : Nat} (hk : k ≤ 32) : 2 ^ k ≤ 4294967296 := Nat.pow_le_pow_right (show 2 > 0 by decide) hk

theorem bb_andNot (a b : Int) : bBits .andNot .u32 a b = IntKind.u32.wrap ((BitVec.ofInt 32 a &&& ~~~(BitVec.ofInt 32 b) : BitVec 32).toNat : Int) := rfl
theorem bb_and (a b : Int) : bBits .and .u32 a b = IntKind.u32.wrap ((BitVec.ofInt 32 a &&& BitVec.ofInt 32 b : BitVec 32).toNat : Int) := rfl
theorem bb_or (a b : Int) : bBits .or .u32 a b = IntKind.u32.wrap ((BitVec.ofInt 32 a ||| BitVec.ofInt 32 b : BitVec 32).toNat : Int) := rfl
theorem bits_andNot {a : Int} (h0 : 0 ≤ a) (h1 : a ≤ 4294967295) {k : Nat} (hk : k ≤ 32) : bBits .andNot .u32 a (4294967296 - ((2 ^ k : Nat) : Int)) = a % ((2 ^ k : Nat) : Int) := by
  obtain ⟨n, rfl⟩ := Int.eq_ofNat_of_zero_le h0
  have hp := p32 hk
  have hk0 := Nat.two_pow_pos k
  rw [bb_andNot, mask_not k hk, BitVec.toNat_and, bv32 (by omega), BitVec.toNat_ofNat, Nat.mod_eq_of_lt (show 2 ^ k - 1 < 2 ^ 32 by omega), Nat.and_two_pow_sub_one_eq_mod]
  have := Nat.mod_le n (2 ^ k)
  rw [wrap_u32 (by omega) (by omega)]
  omega
theorem nat_mask {n k : Nat} (hk : k ≤ 32) (hn : n < 4294967296) : n &&& (4294967296 - 2 ^ k) = n / 2 ^ k * 2 ^ k := by
  have e : 4294967296 - 2 ^ k = (2 ^ (32 - k) - 1) <<< k := by
    rw [Nat.shiftLeft_eq, Nat.sub_mul, Nat.one_mul, ← Nat.pow_add, Nat.sub_add_cancel hk]
  rw [e, ← Nat.shiftLeft_eq, ← Nat.shiftRight_eq_div_pow]
  apply Nat.eq_of_testBit_eq
  intro i
  simp only [Nat.testBit_and, Nat.testBit_shiftLeft, Nat.testBit_shiftRight, Nat.testBit_two_pow_sub_one]
  by_cases hi : i ≥ k
  · simp only [hi, decide_true, Bool.true_and, show k + (i - k) = i by omega]
    by_cases h32 : i - k < 32 - k
    · simp [h32]
    · have : n.testBit i = false := Nat.testBit_lt_two_pow (Nat.lt_of_lt_of_le hn (Nat.pow_le_pow_right (show 2 > 0 by decide) (show 32 ≤ i by omega)))
      simp [this]
  · simp [hi]
theorem bits_and {a : Int} (h0 : 0 ≤ a) (h1 : a ≤ 4294967295) {k : Nat} (hk : k ≤ 32) : bBits .and .u32 a (4294967296 - ((2 ^ k : Nat) : Int)) = a - a % ((2 ^ k : Nat) : Int) := by
  obtain ⟨n, rfl⟩ := Int.eq_ofNat_of_zero_le h0
  have hp := p32 hk
  have hk0 := Nat.two_pow_pos k
  have e : (4294967296 - ((2 ^ k : Nat) : Int)) = ((4294967296 - 2 ^ k : Nat) : Int) := by omega
  rw [bb_and, e, BitVec.toNat_and, bv32 (by omega), bv32 (by omega), nat_mask hk (by omega)]
  have h3 := Nat.div_add_mod n (2 ^ k)
  rw [Nat.mul_comm] at h3
  rw [wrap_u32 (by omega) (by omega)]
  omega
theorem bits_xorMask {k : Nat} (hk : k ≤ 32) : bBits .xor .u32 4294967295 (4294967296 - ((2 ^ k : Nat) : Int)) = ((2 ^ k : Nat) : Int) - 1 := by
  have : ∀ k : Fin 33, bBits .xor .u32 4294967295 (4294967296 - ((2 ^ k.val : Nat) : Int)) = ((2 ^ k.val : Nat) : Int) - 1 := by decide
  exact this ⟨k, by omega⟩
theorem bits_orLow {a : Int} (h0 : 0 ≤ a) (h1 : a ≤ 4294967295) {k : Nat} (hk : k ≤ 32) (ha : a % ((2 ^ k : Nat) : Int) = 0) : bBits .or .u32 a (((2 ^ k : Nat) : Int) - 1) = a + (((2 ^ k : Nat) : Int) - 1) ∧ a + (((2 ^ k : Nat) : Int) - 1) ≤ 4294967295 := by
  obtain ⟨n, rfl⟩ := Int.eq_ofNat_of_zero_le h0
  have hp := p32 hk
  have hk0 := Nat.two_pow_pos k
  have hn : n % 2 ^ k = 0 := by omega
  have h3 := Nat.div_add_mod n (2 ^ k)
  have hlt : n + (2 ^ k - 1) < 4294967296 := by
    have e32 : 2 ^ k * 2 ^ (32 - k) = 4294967296 := by rw [← Nat.pow_add, show k + (32 - k) = 32 by omega]
    have : n / 2 ^ k < 2 ^ (32 - k) := by
      rw [Nat.div_lt_iff_lt_mul hk0, Nat.mul_comm, e32]; omega
    have h5 : 2 ^ k * (n / 2 ^ k + 1) ≤ 2 ^ k * 2 ^ (32 - k) := Nat.mul_le_mul_left _ this
    rw [e32, Nat.mul_add] at h5
    omega
  have e : (((2 ^ k : Nat) : Int) - 1) = ((2 ^ k - 1 : Nat) : Int) := by omega
  have h4 : n ||| (2 ^ k - 1) = n + (2 ^ k - 1) := by
    have := Nat.two_pow_add_eq_or_of_lt (i := k) (b := 2 ^ k - 1) (by omega) (n / 2 ^ k)
    rw [show n = 2 ^ k * (n / 2 ^ k) by omega]
    exact this.symm
  refine ⟨?_, by omega⟩
  rw [bb_or, e, BitVec.toNat_or, bv32 (by omega), bv32 (by omega), h4, wrap_u32 (by omega) (by omega)]
  omega

/-- the slice [:k] -/
theorem sb_take {α : Type} {f : α → AV} {l : List α} {k : Nat} {K : List AV → Prop} (h : k ≤ l.length) (hk : K ((l.take k).map f)) : Sb 0 (k : Int) (l.map f).length fun a b => Sl (l.map f) a (b - a) K :=
  Sb.intro 0 k rfl rfl (by omega) (by simpa using h) (sl_map (by omega) (by simpa using hk))
/-- a result that is a Bool, at the end -/
theorem fin_t {K : AV → List Obj → Prop} {hs : List Obj} {X : Bool} (hK : K (.sb X) hs) (h : X = true) : (∃ b, AV.v (.bool true) = .v (.bool b) ∧ K (.sb b) hs) ∨ (∃ b, AV.v (.bool true) = .sb b ∧ K (.sb b) hs) := .inl ⟨true, rfl, h ▸ hK⟩
theorem fin_f {K : AV → List Obj → Prop} {hs : List Obj} {X : Bool} (hK : K (.sb X) hs) (h : X = false) : (∃ b, AV.v (.bool false) = .v (.bool b) ∧ K (.sb b) hs) ∨ (∃ b, AV.v (.bool false) = .sb b ∧ K (.sb b) hs) := .inl ⟨false, rfl, h ▸ hK⟩
theorem fin_s {K : AV → List Obj → Prop} {hs : List Obj} {X b : Bool} (hK : K (.sb X) hs) (h : X = b) : (∃ c, AV.sb b = .v (.bool c) ∧ K (.sb c) hs) ∨ (∃ c, AV.sb b = .sb c ∧ K (.sb c) hs) := .inr ⟨b, rfl, h ▸ hK⟩

end Go.Vm

set_option linter.unusedVariables false
set_option linter.unusedSimpArgs false
namespace Go.Vm

def frcP : List (Nat × Nat) → (List (Nat × Nat) → Prop) → Prop
  | [], K => K []
  | (i, j) :: r, K => frcN i fun i' => frcN j fun j' => frcP r fun r' => K ((i', j') :: r')
theorem frcP_eq : ∀ (ρ : List (Nat × Nat)) (K : List (Nat × Nat) → Prop), frcP ρ K = K ρ
  | [], K => rfl
  | (i, j) :: r, K => by simp only [frcP, frcN_eq, frcP_eq r]
abbrev Names := List (Nat × Nat)
def addK (ρ : Names) (i j : Nat) (K : Names → Prop) : Prop :=
  match get ρ i with
  | some _ => K ρ
  | none => frcN i fun i => frcN j fun j => K ((i, j) :: ρ)
theorem addK_ex {ρ : Names} {i j : Nat} {K : Names → Prop} (h : addK ρ i j K) : ∃ ρ, K ρ := by
  unfold addK at h
  split at h
  · exact ⟨_, h⟩
  · rw [frcN_eq, frcN_eq] at h; exact ⟨_, h⟩
def pair1K (ρ : Names) (x y : AV) (K : Names → Prop) : Prop :=
  match x, y with
  | .op i _, .op j _ => addK ρ i j K
  | .ep i _ _ _, .ep j _ _ _ => addK ρ i j K
  | .os i _ _ _, .os j _ _ _ => addK ρ i j K
  | _, _ => K ρ
theorem pair1K_ex {ρ : Names} {x y : AV} {K : Names → Prop} (h : pair1K ρ x y K) : ∃ ρ, K ρ := by
  unfold pair1K at h
  split at h
  · exact addK_ex h
  · exact addK_ex h
  · exact addK_ex h
  · exact ⟨_, h⟩
def pairLK : List AV → List AV → Names → (Names → Prop) → Prop
  | x :: xs, y :: ys, ρ, K => pair1K ρ x y fun ρ => pairLK xs ys ρ K
  | _, _, ρ, K => K ρ
theorem pairLK_ex : ∀ {xs ys : List AV} {ρ : Names} {K : Names → Prop}, pairLK xs ys ρ K → ∃ ρ, K ρ
  | x :: xs, y :: ys, ρ, K, h => by
    obtain ⟨ρ', h'⟩ := pair1K_ex h
    exact pairLK_ex h'
  | [], ys, ρ, K, h => by simp only [pairLK] at h; exact ⟨_, h⟩
  | x :: xs, [], ρ, K, h => by simp only [pairLK] at h; exact ⟨_, h⟩
def pairAK (ρ : Names) (x y : AV) (K : Names → Prop) : Prop :=
  match x, y with
  | .agg xs, .agg ys => pairLK xs ys ρ K
  | .fn _ a b, .fn _ c d => pairLK a c ρ fun ρ => pairLK b d ρ K
  | x, y => pair1K ρ x y K
theorem pairAK_ex {ρ : Names} {x y : AV} {K : Names → Prop} (h : pairAK ρ x y K) : ∃ ρ, K ρ := by
  unfold pairAK at h
  split at h
  · exact pairLK_ex h
  · obtain ⟨ρ', h'⟩ := pairLK_ex h; exact pairLK_ex h'
  · exact pair1K_ex h
def pairSK (σ : St) : List (Nat × AV) → Names → (Names → Prop) → Prop
  | [], ρ, K => K ρ
  | (t, x) :: r, ρ, K => match get σ.s t with
    | some y => pairAK ρ x y fun ρ => pairSK σ r ρ K
    | none => pairSK σ r ρ K
theorem pairSK_ex {σ : St} : ∀ {l : List (Nat × AV)} {ρ : Names} {K : Names → Prop}, pairSK σ l ρ K → ∃ ρ, K ρ
  | [], ρ, K, h => ⟨_, h⟩
  | (t, x) :: r, ρ, K, h => by
    simp only [pairSK] at h
    split at h
    · obtain ⟨ρ', h'⟩ := pairAK_ex h; exact pairSK_ex h'
    · exact pairSK_ex h
def pairHK (s σ : St) : Names → Names → (Names → Prop) → Prop
  | [], ρ, K => K ρ
  | (i, j) :: r, ρ, K => match get s.h i, get σ.h j with
    | some (.box cs), some (.box ds) => pairLK cs ds ρ fun ρ => pairHK s σ r ρ K
    | _, _ => pairHK s σ r ρ K
theorem pairHK_ex {s σ : St} : ∀ {l ρ : Names} {K : Names → Prop}, pairHK s σ l ρ K → ∃ ρ, K ρ
  | [], ρ, K, h => ⟨_, h⟩
  | (i, j) :: r, ρ, K, h => by
    simp only [pairHK] at h
    split at h
    · obtain ⟨ρ', h'⟩ := pairLK_ex h; exact pairHK_ex h'
    · exact pairHK_ex h
def idP : Nat → Names
  | 0 => []
  | k + 1 => (k, k) :: idP k
def autoK (p : Nat) (s σ : St) (K : Names → Prop) : Prop :=
  frcP (idP p) fun ρ => pairSK σ s.s ρ fun a => pairHK s σ a a fun b => pairHK s σ b b K
theorem Le.auto {p : Nat} {s σ : St} (h : autoK p s σ fun ρ => (injB ρ && (belowB s.n ρ && fixB ρ p)) = true ∧ (LeS ρ s.s σ ∧ LeH ρ s.h σ)) : Le p s σ := by
  unfold autoK at h
  rw [frcP_eq] at h
  obtain ⟨a, h⟩ := pairSK_ex h
  obtain ⟨b, h⟩ := pairHK_ex h
  obtain ⟨c, h⟩ := pairHK_ex h
  exact ⟨c, h⟩

/-- an index that is a literal -/
theorem in_c {i : Int} {len : Nat} {K : Nat → Prop} (h : decide (0 ≤ i ∧ i.toNat < len) = true) (hk : K i.toNat) : In i len K := by
  have h := of_decide_eq_true h
  exact In.intro i.toNat (by omega) h.2 hk
theorem ix_set {xs : List AV} {i : Nat} {x : AV} {K : AV → Prop} (h : i < xs.length) (hk : K x) : Ix (xs.set i x) i K := Ix.intro (by rw [List.getElem?_set_self h]) hk
theorem Weak.agg {xs ys : List AV} (h : WeakL xs ys) : Weak (.agg xs) (.agg ys) := fun E w ι v hr => by
  cases hr with
  | agg _ c hs hc =>
    have := h.rel (c := c) ⟨hs, hc⟩
    exact .agg _ _ this.1 this.2
end Go.Vm

set_option linter.unusedVariables false
set_option linter.unusedSimpArgs false
namespace Go.Vm

/-- a part of a struct's cells -/
def partV (P : Program) (t : TypeId) (xs : List Value) (off : Nat) : Option Value :=
  match tagg P t with
  | some true => (match tsz P t with
    | some n => some (.agg ((xs.drop off).take n).toArray)
    | none => none)
  | some false => xs[off]?
  | none => none
/-- two values compared -/
def eqT (P : Program) : Nat → TypeId → Value → Value → Option Bool
  | 0, _, _, _ => none
  | d + 1, t, x, y => match P.underlying t with
    | some (.int _) => (match x, y with
      | .int k a, .int k' b => (match kEq k k' with
        | true => some (a == b)
        | false => none)
      | _, _ => none)
    | some .bool => (match x, y with
      | .bool a, .bool b => some (a == b)
      | _, _ => none)
    | some .string => (match x, y with
      | .string a, .string b => some (a.toList == b.toList)
      | _, _ => none)
    | some (.struct fs) => (match P.stoodInHeld t, x, y with
      | false, .agg xs, .agg ys => eqFs (fun t a b => eqT P d t a b) xs.toList ys.toList fs.toList
      | _, _, _ => none)
    | _ => none
where eqFs (e : TypeId → Value → Value → Option Bool) (xs ys : List Value) : List Field → Option Bool
  | [] => some true
  | f :: r => match f.name == "_" with
    | true => eqFs e xs ys r
    | false => (match partV P f.type xs f.offset, partV P f.type ys f.offset with
      | some a, some b => (match e f.type a b, eqFs e xs ys r with
        | some p, some q => some (p && q)
        | _, _ => none)
      | _, _ => none)

section
variable {P : Program}
theorem partV_run {t : TypeId} {xs : Array Value} {off : Nat} {v : Value} (h : partV P t xs.toList off = some v) (w : World) : (part t xs off).run P w = .ok v w := by
  unfold partV at h
  split at h
  · rename_i ht
    split at h
    · rename_i n hn
      cases h
      have e : (xs.extract off (off + n)) = ((xs.toList.drop off).take n).toArray := by
        apply Array.ext'
        rw [Array.toList_extract]
        simp [List.extract]
      simp [part, run_isAgg ht, tsz_spec hn, e]
    · cases h
  · rename_i ht
    have h' : xs[off]? = some v := by simpa using h
    simp [part, run_isAgg ht, h']
  · cases h
theorem eqT_run : ∀ (d : Nat) {t : TypeId} {x y : Value} {b : Bool}, eqT P d t x y = some b → ∀ (D : Nat) (w : World), d ≤ D → (Op.equalIn D t x y).run P w = .ok b w
  | 0, t, x, y, b, h => by simp [eqT] at h
  | d + 1, t, x, y, b, h => by
    intro D w hD
    obtain ⟨D, rfl⟩ : ∃ k, D = k + 1 := ⟨D - 1, by omega⟩
    simp only [eqT] at h
    split at h
    · rename_i q hu
      split at h
      · split at h
        · rename_i hk
          cases kEq_eq hk
          cases h
          exact run_equalIn_int w D t _ _ _ _ hu
        · cases h
      · cases h
    · rename_i hu
      split at h
      · cases h; exact run_equalIn_bool' w D t _ _ hu
      · cases h
    · rename_i hu
      split at h
      · cases h; exact run_equalIn_string w D t _ _ hu
      · cases h
    · rename_i fs hu
      split at h
      · rename_i xs ys hs
        have hf : P.fieldsOf t = fs := by simp [Program.fieldsOf, hu]
        rw [run_equalIn_struct w D t xs ys (by rw [hf]; exact hu) hs, hf]
        have go : ∀ (l : List Field) (b : Bool), eqT.eqFs P (fun t a b => eqT P d t a b) xs.toList ys.toList l = some b → (Op.eqFields D xs ys l).run P w = .ok b w := by
          intro l
          induction l with
          | nil => intro b h; simp only [eqT.eqFs, Option.some.injEq] at h; subst h; simp [Op.eqFields]
          | cons f r ih =>
            intro b h
            simp only [eqT.eqFs] at h
            split at h
            · rename_i hn
              have hn : f.name = "_" := by simpa using hn
              simp only [Op.eqFields, hn, ne_eq, not_true_eq_false, if_false]
              exact ih b h
            · rename_i hn
              have hn : f.name ≠ "_" := by simpa using hn
              split at h
              case h_2 => cases h
              rename_i a c ha hc
              split at h
              case h_2 => cases h
              rename_i p q hp hq
              cases h
              simp only [Op.eqFields, ne_eq, hn, not_false_eq_true, if_true, Sem.run_bind, partV_run ha w, partV_run hc w, Result.andThen_ok, eqT_run d hp D w (by omega), Sem.run_ite, Sem.run_pure]
              cases p
              · simp
              · simpa using ih q hq
        exact go _ _ h
      · cases h
    · cases h
end

theorem eqv_of {P : Program} {t : TypeId} {xs ys : List AV} {K : Bool → Prop} {vs us : List Value} {b : Bool} (h1 : denL xs = some vs) (h2 : denL ys = some us) (hg : P.eqGuardType P.depth t = false) (h : eqT P 10 t (.agg vs.toArray) (.agg us.toArray) = some b) (hk : K b) : EqV P t xs ys K :=
  EqV.intro vs us b h1 h2 hg (fun w => eqT_run 10 h 10000 w (by decide)) hk
end Go.Vm

