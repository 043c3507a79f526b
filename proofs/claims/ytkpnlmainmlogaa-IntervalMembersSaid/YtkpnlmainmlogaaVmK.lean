/- An abstract machine over the loaded code: the steps of an evaluation. -/
import Derived.Test.YtkpnlmainmlogaaVmM
set_option linter.unusedVariables false
set_option linter.unusedSimpArgs false
namespace Go.Vm

theorem Lp.intro {p : Nat} {body : St → (Exit → St → Prop) → Prop} {σ : St} {Q : Exit → St → Prop} (G : Type) (S : G → St) (Inv : G → Prop) (μ : G → Nat) (g : G) (h0 : Inv g) (hle : Le p (S g) σ)
    (round : ∀ g, Inv g → body (S g) fun e σ' => match e with
      | .normal => ∃ g', Inv g' ∧ μ g' < μ g ∧ Le p (S g') σ'
      | e => Q e σ') : Lp p body σ Q := by
  exact ⟨G, S, Inv, μ, ⟨g, h0, hle⟩, round⟩

theorem Jn.intro {p : Nat} {body : (St → Prop) → Prop} {K : St → Prop} (G : Type) (S : G → St) (Inv : G → Prop) (h1 : body (fun σ' => ∃ g, Inv g ∧ Le p (S g) σ')) (h2 : ∀ g, Inv g → K (S g)) : Jn p body K := ⟨G, S, Inv, h1, h2⟩
/-- gathered at one state -/
theorem Jn.at {p : Nat} {body : (St → Prop) → Prop} {K : St → Prop} (s : St) (h1 : body (fun σ' => ∃ _ : Unit, True ∧ Le p s σ')) (h2 : K s) : Jn p body K := ⟨Unit, fun _ => s, fun _ => True, h1, fun _ _ => h2⟩
theorem br_t {b : Bool} {T F : Prop} (h : b = true) (h1 : T) : Br b T F := Br.intro (fun _ => h1) (fun h' => by rw [h] at h'; cases h')
theorem br_f {b : Bool} {T F : Prop} (h : b = false) (h1 : F) : Br b T F := Br.intro (fun h' => by rw [h] at h'; cases h') (fun _ => h1)
theorem br_lt {T F : Prop} (h : T) : Br true T F := br_t rfl h
theorem br_lf {T F : Prop} (h : F) : Br false T F := br_f rfl h
theorem br_b {b : Bool} {T F : Prop} (h1 : b = true → T) (h2 : b = false → F) : Br b T F := Br.intro h1 h2
theorem br_dec {p : Prop} {d : Decidable p} {T F : Prop} (h1 : p → T) (h2 : ¬ p → F) : Br (@decide p d) T F := Br.intro (fun h => h1 (of_decide_eq_true h)) (fun h => h2 (of_decide_eq_false h))
theorem br_not {b : Bool} {T F : Prop} (h : Br b F T) : Br (!b) T F := by
  obtain ⟨h1, h2⟩ := h.elim
  cases b
  · exact Br.intro (fun _ => h2 rfl) (fun h => by cases h)
  · exact Br.intro (fun h => by cases h) (fun _ => h1 rfl)
theorem br_pos {p : Prop} {d : Decidable p} {T F : Prop} (h : p) (h1 : T) : Br (@decide p d) T F := br_dec (fun _ => h1) (fun hn => absurd h hn)
theorem br_neg {p : Prop} {d : Decidable p} {T F : Prop} (h : ¬ p) (h1 : F) : Br (@decide p d) T F := br_dec (fun hp => absurd hp h) (fun _ => h1)
theorem in_nat {j len : Nat} {K : Nat → Prop} (h : j < len) (hk : K j) : In (j : Int) len K := In.intro j rfl h hk
theorem in_map {α : Type} {f : α → AV} {l : List α} {j : Nat} {K : Nat → Prop} (h : j < l.length) (hk : K j) : In (j : Int) (l.map f).length K := In.intro j rfl (by simpa using h) hk
theorem ix_map {α : Type} {f : α → AV} {l : List α} {i : Nat} {K : AV → Prop} {r : α} (h : l[i]? = some r) (hk : K (f r)) : Ix (l.map f) i K := Ix.intro (by simp [h]) hk
theorem ix_any {α : Type} {f : α → AV} {l : List α} {i : Nat} {K : AV → Prop} (hi : i < l.length) (hk : ∀ r, l[i]? = some r → K (f r)) : Ix (l.map f) i K := ix_map (List.getElem?_eq_getElem hi) (hk _ (List.getElem?_eq_getElem hi))
theorem sl_full {xs : List AV} {len : Nat} {K : List AV → Prop} (h : xs.length = len) (hk : K xs) : Sl xs 0 len K :=
  Sl.intro (by omega) (by rw [List.drop_zero, ← h, List.take_length]) hk
theorem sl_map {α : Type} {f : α → AV} {l : List α} {off len : Nat} {K : List AV → Prop} (h : off + len ≤ l.length) (hk : K (((l.drop off).take len).map f)) : Sl (l.map f) off len K :=
  Sl.intro (by simpa using h) (by rw [List.map_take, List.map_drop]) hk
theorem wr_i64 {e r : Int} {K : Int → Prop} (h0 : e = r) (h1 : -9223372036854775808 ≤ r) (h2 : r ≤ 9223372036854775807) (hk : K r) : Wr .i64 e K := by
  subst h0
  refine Wr.intro ?_ hk
  simp only [IntKind.wrap, IntKind.signed, IntKind.bits]; simp; omega
theorem wr_u64 {e r : Int} {K : Int → Prop} (h0 : e = r) (h1 : 0 ≤ r) (h2 : r ≤ 18446744073709551615) (hk : K r) : Wr .u64 e K := by
  subst h0
  refine Wr.intro ?_ hk
  simp only [IntKind.wrap, IntKind.signed, IntKind.bits]; simp; omega
theorem wr_u64_any {e : Int} {K : Int → Prop} (h : ∀ r, 0 ≤ r → r ≤ 18446744073709551615 → K r) : Wr .u64 e K := by
  refine Wr.intro rfl (h _ ?_ ?_)
  · simp only [IntKind.wrap, IntKind.signed, IntKind.bits]; simp; omega
  · simp only [IntKind.wrap, IntKind.signed, IntKind.bits]; simp; omega
theorem wr_u32_any {e : Int} {K : Int → Prop} (h : ∀ r, 0 ≤ r → r ≤ 4294967295 → K r) : Wr .u32 e K := by
  refine Wr.intro rfl (h _ ?_ ?_)
  · simp only [IntKind.wrap, IntKind.signed, IntKind.bits]; simp; omega
  · simp only [IntKind.wrap, IntKind.signed, IntKind.bits]; simp; omega
theorem wr_any {k : IntKind} {e : Int} {K : Int → Prop} (h : ∀ r, K r) : Wr k e K := Wr.intro rfl (h _)
theorem wr_u32 {e r : Int} {K : Int → Prop} (h0 : e = r) (h1 : 0 ≤ r) (h2 : r ≤ 4294967295) (hk : K r) : Wr .u32 e K := by
  subst h0
  refine Wr.intro ?_ hk
  simp only [IntKind.wrap, IntKind.signed, IntKind.bits]; simp; omega


/-- y says no more of a value than x -/
def Weak (x y : AV) : Prop := ∀ (E : Nat → Prop) (w : World) (ι : Inj) (v : Value), Rel E w ι x v → Rel E w ι y v
theorem Weak.refl {x : AV} : Weak x x := fun _ _ _ _ h => h
theorem Weak.bool {b : Bool} : Weak (.v (.bool b)) (.sb b) := fun _ _ _ v h => by cases h; exact .sb b
theorem Weak.nils : Weak .nils (.lst []) := fun _ _ _ v h => by cases h; exact .lnil none 0
theorem Weak.tup2 {a b a' b' : AV} (h1 : Weak a a') (h2 : Weak b b') : Weak (.tup [a, b]) (.tup [a', b']) := fun E w ι v h => by
  cases h with
  | tup _ c hs h =>
    refine .tup _ _ hs (fun i x y hx hy => ?_)
    match i with
    | 0 => simp at hx; subst hx; exact h1 _ _ _ _ (h 0 a y rfl hy)
    | 1 => simp at hx; subst hx; exact h2 _ _ _ _ (h 1 b y rfl hy)
    | n + 2 => simp at hx
theorem ACall.weak {P : Program} {f : FuncId} {args : List AV} {hs : List Obj} {K : AV → List Obj → Prop} (h : ACall P f args hs fun r hs' => ∃ y, Weak r y ∧ K y hs') : ACall P f args hs K := by
  obtain ⟨h1, h2⟩ := h.elim
  refine ACall.intro h1 fun ι E w vals r hv => (h2 ι E w vals r hv).mono ?_
  rintro e w' ⟨v, rr, hs', ι', E', he, ⟨y, hy, hk⟩, hr, hrel, hx⟩
  exact ⟨v, y, hs', ι', E', he, hk, hr, hy _ _ _ _ hrel, hx⟩
/-- a result that is a Bool -/
theorem ACall.bool {P : Program} {f : FuncId} {args : List AV} {hs : List Obj} {K : AV → List Obj → Prop} (h : ACall P f args hs fun r hs' => (∃ b, r = .v (.bool b) ∧ K (.sb b) hs') ∨ (∃ b, r = .sb b ∧ K (.sb b) hs')) : ACall P f args hs K :=
  ACall.weak (h.mono fun r hs' hh => by
    rcases hh with ⟨b, rfl, h⟩ | ⟨b, rfl, h⟩
    · exact ⟨_, Weak.bool, h⟩
    · exact ⟨_, Weak.refl, h⟩)

/-- arguments of which less is said -/
def WeakL : List AV → List AV → Prop
  | [], [] => True
  | x :: xs, y :: ys => Weak x y ∧ WeakL xs ys
  | _, _ => False
theorem WeakL.rel {E : Nat → Prop} {w : World} {ι : Inj} : ∀ {xs ys : List AV} {c : Array Value}, WeakL xs ys → RL E w ι xs c → RL E w ι ys c
  | [], [], c, _, h => h
  | x :: xs, y :: ys, c, hw, h => by
    obtain ⟨v, vs, rfl, h1, h2⟩ := h.head
    exact RL.cons (hw.1 _ _ _ _ h1) (WeakL.rel hw.2 h2)
  | [], _ :: _, _, hw, _ => hw.elim
  | _ :: _, [], _, hw, _ => hw.elim
theorem ACall.args {P : Program} {f : FuncId} {xs ys : List AV} {hs : List Obj} {K : AV → List Obj → Prop} (hw : WeakL xs ys) (h : ACall P f ys hs K) : ACall P f xs hs K := by
  obtain ⟨h1, h2⟩ := h.elim
  exact ACall.intro h1 fun ι E w vals r hv => h2 ι E w vals r (hw.rel hv)

end Go.Vm
