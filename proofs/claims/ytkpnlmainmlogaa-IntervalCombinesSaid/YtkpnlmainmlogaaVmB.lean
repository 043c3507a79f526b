/- An abstract machine over the loaded code, part B: operations that leave the world alone. -/
import Derived.Test.YtkpnlmainmlogaaVmA
import Derived.Laws.StructEq
import Derived.Laws.Tables
set_option linter.unusedVariables false
set_option linter.unusedSimpArgs false
namespace Go.Vm

/-! ### Obligations: names at which the evaluation stops -/
structure Wr (k : IntKind) (e : Int) (K : Int → Prop) : Prop where
  out : K (k.wrap e)
structure Br (b : Bool) (T F : Prop) : Prop where
  out : (b = true → T) ∧ (b = false → F)
structure Ix (xs : List AV) (i : Nat) (K : AV → Prop) : Prop where
  out : ∃ x, xs[i]? = some x ∧ K x
structure In (i : Int) (len : Nat) (K : Nat → Prop) : Prop where
  out : ∃ j : Nat, i = j ∧ j < len ∧ K j
structure Ob (p K : Prop) : Prop where
  out : p ∧ K
structure Sl (xs : List AV) (off len : Nat) (K : List AV → Prop) : Prop where
  out : off + len ≤ xs.length ∧ K ((xs.drop off).take len)
/-- a slice expression's bounds: lo, hi in Int, hi at most m -/
structure Sb (lo hi : Int) (m : Nat) (K : Nat → Nat → Prop) : Prop where
  out : ∃ l h : Nat, lo = l ∧ hi = h ∧ l ≤ h ∧ h ≤ m ∧ K l h
structure EqV (P : Program) (t : TypeId) (xs ys : List AV) (K : Bool → Prop) : Prop where
  out : ∃ (vs us : List Value) (b : Bool), xs = vs.map .v ∧ ys = us.map .v ∧ P.eqGuardType P.depth t = false ∧ (∀ w, (Op.equalIn 10000 t (.agg vs.toArray) (.agg us.toArray)).run P w = .ok b w) ∧ K b

theorem Wr.intro {k : IntKind} {e r : Int} {K : Int → Prop} (h : k.wrap e = r) (hk : K r) : Wr k e K := ⟨by rw [h]; exact hk⟩
theorem Wr.elim {k : IntKind} {e : Int} {K : Int → Prop} (h : Wr k e K) : K (k.wrap e) := h.out
theorem Br.intro {b : Bool} {T F : Prop} (h1 : b = true → T) (h2 : b = false → F) : Br b T F := ⟨⟨h1, h2⟩⟩
theorem Br.elim {b : Bool} {T F : Prop} (h : Br b T F) : (b = true → T) ∧ (b = false → F) := h.out
theorem Ix.intro {xs : List AV} {i : Nat} {K : AV → Prop} {x : AV} (h : xs[i]? = some x) (hk : K x) : Ix xs i K := ⟨⟨x, h, hk⟩⟩
theorem Ix.elim {xs : List AV} {i : Nat} {K : AV → Prop} (h : Ix xs i K) : ∃ x, xs[i]? = some x ∧ K x := h.out
theorem In.intro {i : Int} {len : Nat} {K : Nat → Prop} (j : Nat) (h : i = j) (hl : j < len) (hk : K j) : In i len K := ⟨⟨j, h, hl, hk⟩⟩
theorem In.elim {i : Int} {len : Nat} {K : Nat → Prop} (h : In i len K) : ∃ j : Nat, i = j ∧ j < len ∧ K j := h.out
theorem Ob.intro {p K : Prop} (h : p) (hk : K) : Ob p K := ⟨⟨h, hk⟩⟩
theorem Ob.elim {p K : Prop} (h : Ob p K) : p ∧ K := h.out
theorem Sl.intro {xs ys : List AV} {off len : Nat} {K : List AV → Prop} (h : off + len ≤ xs.length) (he : (xs.drop off).take len = ys) (hk : K ys) : Sl xs off len K := ⟨h, by rw [he]; exact hk⟩
theorem Sl.elim {xs : List AV} {off len : Nat} {K : List AV → Prop} (h : Sl xs off len K) : off + len ≤ xs.length ∧ K ((xs.drop off).take len) := h.out
theorem Sb.intro {lo hi : Int} {m : Nat} {K : Nat → Nat → Prop} (l h : Nat) (h1 : lo = l) (h2 : hi = h) (h3 : l ≤ h) (h4 : h ≤ m) (hk : K l h) : Sb lo hi m K := ⟨⟨l, h, h1, h2, h3, h4, hk⟩⟩
theorem Sb.elim {lo hi : Int} {m : Nat} {K : Nat → Nat → Prop} (h : Sb lo hi m K) : ∃ l h : Nat, lo = l ∧ hi = h ∧ l ≤ h ∧ h ≤ m ∧ K l h := h.out
theorem EqV.elim {P : Program} {t : TypeId} {xs ys : List AV} {K : Bool → Prop} (h : EqV P t xs ys K) : ∃ (vs us : List Value) (b : Bool), xs = vs.map .v ∧ ys = us.map .v ∧ P.eqGuardType P.depth t = false ∧ (∀ w, (Op.equalIn 10000 t (.agg vs.toArray) (.agg us.toArray)).run P w = .ok b w) ∧ K b := h.out
theorem EqV.intro {P : Program} {t : TypeId} {xs ys : List AV} {K : Bool → Prop} (vs us : List Value) (b : Bool) (h1 : xs = vs.map .v) (h2 : ys = us.map .v) (h3 : P.eqGuardType P.depth t = false) (h4 : ∀ w, (Op.equalIn 10000 t (.agg vs.toArray) (.agg us.toArray)).run P w = .ok b w) (hk : K b) : EqV P t xs ys K := ⟨⟨vs, us, b, h1, h2, h3, h4, hk⟩⟩

/-! ### Evaluation -/
def tsz (P : Program) (t : TypeId) : Option Nat := (P.info? t).map (·.size)
def tagg (P : Program) (t : TypeId) : Option Bool := match P.underlying t with
  | some (.struct _) => some true
  | some (.array _ _) => some true
  | some _ => some false
  | none => none

def AV.toB : AV → Option Bool
  | .sb b => some b
  | .v (.bool b) => some b
  | _ => none

def kEq : IntKind → IntKind → Bool
  | .i8, .i8 | .i16, .i16 | .i32, .i32 | .i64, .i64 | .u8, .u8 | .u16, .u16 | .u32, .u32 | .u64, .u64 => true
  | _, _ => false
theorem kEq_eq {a b : IntKind} (h : kEq a b = true) : a = b := by cases a <;> cases b <;> first | rfl | simp [kEq] at h

def bBits (op : BinOp) (k : IntKind) (a b : Int) : Int :=
  let x := BitVec.ofInt k.bits a
  let y := BitVec.ofInt k.bits b
  match op with
  | .and => k.wrap (x &&& y).toNat
  | .or => k.wrap (x ||| y).toNat
  | .xor => k.wrap (x ^^^ y).toNat
  | _ => k.wrap (x &&& ~~~y).toNat

def intQ (op : BinOp) (k : IntKind) (a : Int) (k' : IntKind) (b : Int) (K : AV → Prop) : Prop :=
  match op with
  | .shl => Ob (0 ≤ b) (Wr k (a * 2 ^ (min b.toNat k.bits)) fun r => K (.v (.int k r)))
  | .shr => Ob (0 ≤ b) (K (.v (.int k (a.fdiv (2 ^ (min b.toNat k.bits))))))
  | _ => match kEq k k' with
    | false => False
    | true => match op with
      | .add => Wr k (a + b) fun r => K (.v (.int k r))
      | .sub => Wr k (a - b) fun r => K (.v (.int k r))
      | .mul => Wr k (a * b) fun r => K (.v (.int k r))
      | .quo => Ob (b ≠ 0) (Wr k (a.tdiv b) fun r => K (.v (.int k r)))
      | .rem => Ob (b ≠ 0) (K (.v (.int k (a.tmod b))))
      | .and | .or | .xor | .andNot => K (.v (.int k (bBits op k a b)))
      | .eql => K (.sb (decide (a = b)))
      | .neq => K (.sb (!decide (a = b)))
      | .lss => K (.sb (decide (a < b)))
      | .leq => K (.sb (decide (a ≤ b)))
      | .gtr => K (.sb (decide (b < a)))
      | .geq => K (.sb (decide (b ≤ a)))
      | _ => False

def strQ (op : BinOp) (s t : ByteArray) (K : AV → Prop) : Prop :=
  match op with
  | .eql => K (.sb (s.toList == t.toList))
  | .neq => K (.sb (!(s.toList == t.toList)))
  | .lss => K (.sb (Op.bytesLess s.toList t.toList))
  | .leq => K (.sb (Op.bytesLess s.toList t.toList || s.toList == t.toList))
  | .gtr => K (.sb (!(Op.bytesLess s.toList t.toList || s.toList == t.toList)))
  | .geq => K (.sb (!Op.bytesLess s.toList t.toList))
  | .add => Ob (((s.size + t.size : Nat) : Int) ≤ 9223372036854775807) (K (.v (.string (s ++ t))))
  | _ => False

def boolQ (P : Program) (t : TypeId) (op : BinOp) (a b : Bool) (K : AV → Prop) : Prop :=
  match P.underlying t with
  | some .bool => match op with
    | .eql => K (.sb (a == b))
    | .neq => K (.sb (!(a == b)))
    | _ => False
  | _ => False

def nilQ (P : Program) (t : TypeId) (op : BinOp) (b : Bool) (K : AV → Prop) : Prop :=
  match P.underlying t with
  | some (.slice _) => match op with
    | .eql => K (.sb b)
    | .neq => K (.sb (!b))
    | _ => False
  | _ => False

def binQ (P : Program) (op : BinOp) (t : TypeId) (X Y : AV) (K : AV → Prop) : Prop :=
  match X, Y with
  | .v (.int k a), .v (.int k' b) => intQ op k a k' b K
  | .v (.string s), .v (.string u) => strQ op s u K
  | .agg xs, .agg ys => (match op with
    | .eql => EqV P t xs ys fun b => K (.sb b)
    | .neq => EqV P t xs ys fun b => K (.sb (!b))
    | _ => False)
  | .nils, .nils => nilQ P t op true K
  | .fp _, .v (.pointer none) => (match P.underlying t with
    | some (.pointer _) => (match op with
      | .eql => K (.sb false)
      | .neq => K (.sb true)
      | _ => False)
    | _ => False)
  | .op _ _, .v (.pointer none) => (match P.underlying t with
    | some (.pointer _) => (match op with
      | .eql => K (.sb false)
      | .neq => K (.sb true)
      | _ => False)
    | _ => False)
  | X, Y => match X.toB, Y.toB with
    | some a, some b => boolQ P t op a b K
    | _, _ => False

/-! ### What forces the evaluation of a state's parts (they are the identity) -/
def frc (x : AV) (K : AV → Prop) : Prop :=
  match x with
  | .v y => K (.v y)
  | .sb b => K (.sb b)
  | .agg cs => K (.agg cs)
  | .nils => K .nils
  | .lst xs => K (.lst xs)
  | .fp cs => K (.fp cs)
  | .op id off => K (.op id off)
  | .ep id sz i off => K (.ep id sz i off)
  | .os id sz off len => K (.os id sz off len)
  | .fn f a b => K (.fn f a b)
  | .tup vs => K (.tup vs)
  | .junk => K .junk
theorem frc_eq (x : AV) (K : AV → Prop) : frc x K = K x := by cases x <;> rfl
def frcL : List AV → (List AV → Prop) → Prop
  | [], K => K []
  | x :: xs, K => frc x fun y => frcL xs fun ys => K (y :: ys)
theorem frcL_eq : ∀ (xs : List AV) (K : List AV → Prop), frcL xs K = K xs
  | [], K => rfl
  | x :: xs, K => by simp only [frcL, frc_eq, frcL_eq xs]

/-- a value of a type out of cells -/
def mk (agg : Option Bool) (n : Nat) (cs : List AV) (K : AV → Prop) : Prop :=
  match agg with
  | none => False
  | some true => match Nat.ble n cs.length with
    | true => frcL (cs.take n) fun ds => K (.agg ds)
    | false => False
  | some false => match cs with
    | c :: _ => K c
    | [] => False

def ldQ (P : Program) (h : Hp) (t : TypeId) (X : AV) (K : AV → Prop) : Prop :=
  match tsz P t with
  | none => False
  | some n => match X with
    | .fp cs => mk (tagg P t) n cs K
    | .op id off => (match get h id with
      | some (.box cs) => mk (tagg P t) n (cs.drop off) K
      | _ => False)
    | .ep id sz i off => (match get h id with
      | some (.arr sz' xs) => (match Nat.beq sz sz' with
        | true => Ix xs i fun e => mk (tagg P t) n (e.cells.drop off) K
        | false => False)
      | _ => False)
    | _ => False

def fieldQ (P : Program) (s : TypeId) (f : Nat) (X : AV) (K : AV → Prop) : Prop :=
  match P.underlying s with
  | some (.struct fs) => (match fs[f]? with
    | some fd => (match tsz P fd.type with
      | some (_ + 1) => (match X with
        | .fp cs => frcL (cs.drop fd.offset) fun ds => K (.fp ds)
        | .op id off => K (.op id (off + fd.offset))
        | .ep id sz i off => K (.ep id sz i (off + fd.offset))
        | _ => False)
      | _ => False)
    | none => False)
  | _ => False

/-- a part of a value that lies in cells -/
def partQ (P : Program) (t : TypeId) (off : Nat) (cs : List AV) (K : AV → Prop) : Prop :=
  match tagg P t with
  | none => False
  | some true => (match tsz P t with
    | some n => frcL ((cs.drop off).take n) fun ds => K (.agg ds)
    | none => False)
  | some false => match cs.drop off with
    | c :: _ => K c
    | [] => False

def idxQ (P : Program) (t : TypeId) (X I : AV) (K : AV → Prop) : Prop :=
  match I with
  | .v (.int k i) => (match P.underlying t with
    | some (.slice e) => (match tsz P e with
      | some n => (match X with
        | .lst xs => In i xs.length fun j => Ix xs j fun x => (match Nat.beq x.cells.length n with
          | true => frcL x.cells fun ds => K (.fp ds)
          | false => False)
        | .os id sz off len => (match Nat.beq sz n with
          | true => In i len fun j => K (.ep id sz (off + j) 0)
          | false => False)
        | _ => False)
      | none => False)
    | some (.array len e) => (match tsz P e with
      | some n => In i len fun j => (match X with
        | .fp cs => frcL (cs.drop (j * n)) fun ds => K (.fp ds)
        | .op id off => K (.op id (off + j * n))
        | .ep id sz a off => K (.ep id sz a (off + j * n))
        | _ => False)
      | none => False)
    | _ => False)
  | _ => False

def indexQ (P : Program) (t : TypeId) (X I : AV) (K : AV → Prop) : Prop :=
  match I with
  | .v (.int k i) => (match P.underlying t with
    | some .string => (match X with
      | .v (.string s) => In i s.size fun j => ∃ b, s[j]? = some b ∧ K (.v (.int .u8 (b.toNat : Int)))
      | _ => False)
    | some (.array len e) => (match X with
      | .agg cs => (match tsz P e with
        | some n => In i len fun j => partQ P e (j * n) cs K
        | none => False)
      | _ => False)
    | _ => False)
  | _ => False

def lenQ (P : Program) (t : TypeId) (X : AV) (K : AV → Prop) : Prop :=
  match P.underlying t with
  | some (.slice _) => (match X with
    | .lst xs => K (.v (.int .i64 (xs.length : Int)))
    | .os _ _ _ len => K (.v (.int .i64 (len : Int)))
    | .nils => K (.v (.int .i64 0))
    | _ => False)
  | some .string => (match X with
    | .v (.string s) => K (.v (.int .i64 (s.size : Int)))
    | _ => False)
  | some (.array n _) => K (.v (.int .i64 (n : Int)))
  | _ => False

def mmQ (mx : Bool) : List AV → (AV → Prop) → Prop
  | [.v (.int k a), .v (.int k' b)], K => (match kEq k k' with
    | true => (match mx with
      | true => K (.v (.int k (max a b)))
      | false => K (.v (.int k (min a b))))
    | false => False)
  | _, _ => False

def cvQ (P : Program) (src dst : TypeId) (X : AV) (K : AV → Prop) : Prop :=
  match P.underlying src, P.underlying dst with
  | some (.int _), some (.int k) => (match X with
    | .v (.int _ n) => Wr k n fun r => K (.v (.int k r))
    | _ => False)
  | some .string, some .string => (match X with
    | .v (.string s) => K (.v (.string s))
    | _ => False)
  | _, _ => False

def unQ (op : UnOp) (X : AV) (K : AV → Prop) : Prop :=
  match op with
  | .neg => (match X with
    | .v (.int k n) => Wr k (0 - n) fun r => K (.v (.int k r))
    | _ => False)
  | .not => (match X with
    | .v (.bool true) => K (.v (.bool false))
    | .v (.bool false) => K (.v (.bool true))
    | .sb b => K (.sb (!b))
    | _ => False)
  | .xor => (match X with
    | .v (.int k n) => K (.v (.int k (bBits .xor k (if k.signed then -1 else k.max) n)))
    | _ => False)
  | _ => False

/-- set some cells -/
def setAt (cs : List AV) (off : Nat) (vs : List AV) : List AV := cs.take off ++ (vs ++ cs.drop (off + vs.length))

/-- not `junk`: then the number of cells is known -/
def AV.solid : AV → Bool
  | .junk => false
  | .v (.agg _) => false
  | _ => true

def fillQ (place : Nat → Option (Nat × Nat)) (cs : List AV) : List (Nat × AV) → Option (List AV)
  | [] => some cs
  | (i, x) :: rest => match place i with
    | none => none
    | some (off, size) => match x.solid && (Nat.beq x.cells.length size && Nat.ble (off + x.cells.length) cs.length) with
      | false => none
      | true => fillQ place (setAt cs off x.cells) rest

def zeroCells? (P : Program) (t : TypeId) : Option (List AV) :=
  match P.info? t with
  | some i => (match i.zero with
    | some z => some (ofValue z).cells
    | none => none)
  | none => none

def placesOf (P : Program) : List Field → Option (List (Nat × Nat))
  | [] => some []
  | f :: fs => match tsz P f.type, placesOf P fs with
    | some n, some r => some ((f.offset, n) :: r)
    | _, _ => none

def bldQ (P : Program) (t : TypeId) (parts : List (Nat × AV)) (K : AV → Prop) : Prop :=
  match zeroCells? P t with
  | none => False
  | some z => match P.underlying t with
    | some (.struct fs) => (match placesOf P fs.toList with
      | some ps => (match fillQ (fun i => ps[i]?) z parts with
        | some cs => frcL cs fun ds => K (.agg ds)
        | none => False)
      | none => False)
    | some (.array _ e) => (match tsz P e with
      | some n => (match fillQ (fun i => some (i * n, n)) z parts with
        | some cs => frcL cs fun ds => K (.agg ds)
        | none => False)
      | none => False)
    | _ => False

/-- a bound of a slice expression -/
def bnd (d : Int) : Option AV → Option Int
  | none => some d
  | some (.v (.int _ l)) => some l
  | _ => none

def sliceQ (P : Program) (t : TypeId) (X : AV) (lo hi : Option AV) (K : AV → Prop) : Prop :=
  match bnd 0 lo with
  | none => False
  | some l => match P.underlying t with
    | some (.slice e) => (match tsz P e with
      | none => False
      | some n => match X with
        | .lst xs => (match bnd (xs.length : Int) hi with
          | none => False
          | some h => Ob (∀ x, x ∈ xs → x.cells.length = n) (Sb l h xs.length fun a b => Sl xs a (b - a) fun ys => K (.lst ys)))
        | .os id sz off len => (match Nat.beq sz n with
          | false => False
          | true => (match bnd (len : Int) hi with
            | none => False
            | some h => Sb l h len fun a b => K (.os id sz (off + a) (b - a))))
        | .nils => (match bnd 0 hi with
          | none => False
          | some h => Sb l h 0 fun _ _ => K .nils)
        | _ => False)
    | some .string => (match X with
      | .v (.string s) => (match bnd (s.size : Int) hi with
        | none => False
        | some h => Sb l h s.size fun a b => K (.v (.string (s.extract a b))))
      | _ => False)
    | _ => False

def qop (P : Program) (h : Hp) (ev : Operand → AV) (o : Op) (K : AV → Prop) : Prop :=
  match o with
  | .move x => K (ev x)
  | .assign x => K (ev x)
  | .pick c a b => (match ev c with
    | .v (.bool true) => K (ev a)
    | .v (.bool false) => K (ev b)
    | .sb c' => Br c' (K (ev a)) (K (ev b))
    | _ => False)
  | .load t a => ldQ P h t (ev a) K
  | .nilCheck x => (match ev x with
    | .fp cs => K (.fp cs)
    | .op id off => K (.op id off)
    | .ep id sz i off => K (.ep id sz i off)
    | _ => False)
  | .binOp op t x y _ => binQ P op t (ev x) (ev y) K
  | .unOp op _ x => unQ op (ev x) K
  | .convert src dst x => cvQ P src dst (ev x) K
  | .fieldAddr s x f => fieldQ P s f (ev x) K
  | .field t x f => (match P.underlying t with
    | some (.struct fs) => (match fs[f]?, ev x with
      | some fd, .agg cs => partQ P fd.type fd.offset cs K
      | _, _ => False)
    | _ => False)
  | .indexAddr t x i => idxQ P t (ev x) (ev i) K
  | .index t x i => indexQ P t (ev x) (ev i) K
  | .extract x i => (match ev x with
    | .tup vs => (match vs[i]? with
      | some y => K y
      | none => False)
    | _ => False)
  | .build t parts => bldQ P t (parts.toList.map fun p => (p.1, ev p.2)) K
  | .makeFunc fn first cap => K (.fn fn (first.toList.map ev) (cap.toList.map ev))
  | .slice t x lo hi mx => (match mx with
    | none => sliceQ P t (ev x) (lo.map ev) (hi.map ev) K
    | some _ => False)
  | .call c => (match c.callee with
    | .builtin .len => (match c.argTypes[0]?, c.args[0]? with
      | some t, some x => lenQ P t (ev x) K
      | _, _ => False)
    | .builtin .max => mmQ true (c.args.toList.map ev) K
    | .builtin .min => mmQ false (c.args.toList.map ev) K
    | _ => False)
  | _ => False

end Go.Vm
