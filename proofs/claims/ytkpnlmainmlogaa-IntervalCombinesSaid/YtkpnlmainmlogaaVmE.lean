/- An abstract machine over the loaded code, part E: operations that make or write memory: evaluation. -/
import Derived.Test.YtkpnlmainmlogaaVmD
set_option linter.unusedVariables false
set_option linter.unusedSimpArgs false
namespace Go.Vm

/-- The state: the next name, the own memory, what is known of the slots. -/
structure St where
  n : Nat
  h : Hp
  s : List (Nat × AV)

def St.ev (σ : St) : Operand → AV
  | .tmp t => (match get σ.s t with
    | some x => x
    | none => .junk)
  | .const v => ofValue v
  | .global _ => .junk
  | .func f => .fn (.func f) [] []

def set (h : Hp) (id : Nat) (o : Obj) : Hp := (id, o) :: del h id

def frcH : Hp → (Hp → Prop) → Prop
  | [], K => K []
  | (k, o) :: r, K => frcH r fun r' => K ((k, o) :: r')
theorem frcH_eq : ∀ (h : Hp) (K : Hp → Prop), frcH h K = K h
  | [], K => rfl
  | (k, o) :: r, K => by simp only [frcH, frcH_eq r]

/-- the elements that are appended or copied -/
def srcQ (h : Hp) (sz : Nat) (Y : AV) (K : List AV → Prop) : Prop :=
  match Y with
  | .nils => K []
  | .lst ys => Ob (∀ y, y ∈ ys → y.cells.length = sz) (K ys)
  | .os id sz' off len => (match Nat.beq sz' sz with
    | false => False
    | true => match get h id with
      | some (.arr sz'' xs) => (match Nat.beq sz'' sz with
        | true => Sl xs off len K
        | false => False)
      | _ => False)
  | _ => False

/-- an element out of its cells -/
def ofCells (agg : Option Bool) (cs : List AV) : Option AV :=
  match agg with
  | some true => some (.agg cs)
  | some false => (match cs with
    | [c] => some c
    | _ => none)
  | none => none

/-- the zero element of a type -/
def zeroEl (P : Program) (e : TypeId) : Option AV :=
  match zeroCells? P e, tsz P e with
  | some zc, some n => (match Nat.beq zc.length n && zc.all AV.pure1 with
    | true => ofCells (tagg P e) zc
    | false => none)
  | _, _ => none

def appQ (P : Program) (n : Nat) (h : Hp) (t : TypeId) (X : AV) (src : Nat → TypeId → (List AV → Prop) → Prop) (K : AV → Nat → Hp → Prop) : Prop :=
  match P.underlying t with
  | some (.slice e) => (match P.info? e, zeroEl P e with
    | some i, some _ => (match i.bytes with
      | 0 => False
      | b + 1 => (match X with
        | .nils => src i.size e fun ys => Ob ((ys.length + 96) * (b + 1) ≤ 140737488355328 ∧ ∀ x, x ∈ ys → x.cells.all AV.one = true) (K (.os n i.size 0 ys.length) (n + 1) ((n, .arr i.size ys) :: h))
        | .os id sz off len => (match Nat.beq sz i.size with
          | false => False
          | true => match get h id with
            | some (.arr sz' xs) => (match Nat.beq sz' i.size with
              | false => False
              | true => Sl xs off len fun zs => src i.size e fun ys => Ob ((len + ys.length + 96) * (b + 1) ≤ 140737488355328 ∧ ∀ x, x ∈ ys → x.cells.all AV.one = true) (frcH (del h id) fun h' => K (.os n i.size 0 (len + ys.length)) (n + 1) ((n, .arr i.size (zs ++ ys)) :: h')))
            | _ => False)
        | _ => False))
    | _, _ => False)
  | _ => False

def zsrc (P : Program) (m : Nat) (sz : Nat) (e : TypeId) (K : List AV → Prop) : Prop :=
  match zeroEl P e with
  | some z => K (List.replicate m z)
  | none => False

/-- parts of a literal of a slice: all of them, in order -/
def fullParts (sz : Nat) : Nat → List (Nat × AV) → Bool
  | _, [] => true
  | k, (i, x) :: r => Nat.beq i k && (Nat.beq x.cells.length sz && (x.pure && fullParts sz (k + 1) r))

def eop (P : Program) (n : Nat) (h : Hp) (ev : Operand → AV) (o : Op) (K : AV → Nat → Hp → Prop) : Prop :=
  match o with
  | .alloc t => (match zeroCells? P t with
    | some z => frcL z fun z => K (.op n 0) (n + 1) ((n, .box z) :: h)
    | none => False)
  | .box t x => (match (ev x).solid with
    | true => frcL (ev x).cells fun z => K (.op n 0) (n + 1) ((n, .box z) :: h)
    | false => False)
  | .buildSlice t len parts => (match P.underlying t with
    | some (.slice e) => (match tsz P e, zeroEl P e with
      | some sz, some _ => (match Nat.beq parts.size len && (Nat.ble (len * sz) 16777216 && fullParts sz 0 (parts.toList.map fun p => (p.1, ev p.2))) with
        | true => frcL (parts.toList.map fun p => ev p.2) fun xs => K (.os n sz 0 len) (n + 1) ((n, .arr sz xs) :: h)
        | false => False)
      | _, _ => False)
    | _ => False)
  | .store t a x => (match tsz P t with
    | none => False
    | some m => match (ev x).solid && Nat.beq (ev x).cells.length m with
      | false => False
      | true => (match ev a with
        | .op id off => (match get h id with
          | some (.box cs) => (match Nat.ble (off + m) cs.length && (ev x).cells.all AV.one with
            | true => frcL (setAt cs off (ev x).cells) fun ds => frcH (set h id (.box ds)) fun h' => K .junk n h'
            | false => False)
          | _ => False)
        | .ep id sz i off => (match get h id with
          | some (.arr sz' xs) => (match Nat.beq sz sz' && (ev x).cells.all AV.pure1 with
            | true => Ix xs i fun e => (match Nat.ble (off + m) e.cells.length, e with
              | true, .agg cs => frcL (setAt cs off (ev x).cells) fun ds => frcH (set h id (.arr sz (xs.set i (.agg ds)))) fun h' => K .junk n h'
              | true, _ => (match (ev x).cells with
                | [c] => frc c fun c => frcH (set h id (.arr sz (xs.set i c))) fun h' => K .junk n h'
                | _ => False)
              | false, _ => False)
            | false => False)
          | _ => False)
        | _ => False))
  | .makeSlice t l c => (match P.underlying t with
    | some (.slice e) => (match P.info? e, zeroEl P e with
      | some i, some z => (match ev l, ev c with
        | .v (.int _ lv), .v (.int _ cv) => In lv 140737488355329 fun a => In cv 140737488355329 fun b => Ob (a ≤ b ∧ i.bytes * b ≤ 140737488355328) (K (.os n i.size 0 a) (n + 1) ((n, .arr i.size (List.replicate b z)) :: h))
        | _, _ => False)
      | _, _ => False)
    | _ => False)
  | .call c => (match c.callee with
    | .builtin .append => (match c.argTypes.toList, c.args.toList with
      | [t, t'], [x, y] => (match P.underlying t' with
        | some (.slice _) => appQ P n h t (ev x) (fun sz _ K => srcQ h sz (ev y) K) K
        | some (.int _) => (match ev y with
          | .v (.int _ m) => In m 140737488355328 fun m => appQ P n h t (ev x) (zsrc P m) K
          | _ => False)
        | _ => False)
      | _, _ => False)
    | .builtin .copy => (match c.argTypes.toList, c.args.toList with
      | [t, _], [x, y] => (match P.underlying t with
        | some (.slice e) => (match tsz P e with
          | none => False
          | some sz => match ev x with
            | .os id sz' off len => (match Nat.beq sz' sz with
              | false => False
              | true => match get h id with
                | some (.arr sz'' xs) => (match Nat.beq sz'' sz with
                  | false => False
                  | true => srcQ h sz (ev y) fun ys => Ob (off + len ≤ xs.length ∧ ∀ x, x ∈ ys → x.cells.all AV.one = true) (frcH (set h id (.arr sz (xs.take off ++ (ys.take len ++ xs.drop (off + min ys.length len))))) fun h' => K (.v (.int .i64 (min ys.length len : Nat))) n h'))
                | _ => False)
            | _ => False)
        | _ => False)
      | _, _ => False)
    | .builtin .cap => (match c.argTypes.toList, c.args.toList with
      | [t], [x] => (match P.underlying t with
        | some (.slice _) => (match ev x with
          | .nils => K (.v (.int .i64 0)) n h
          | .os _ _ _ len => ∀ c : Nat, len ≤ c → K (.v (.int .i64 c)) n h
          | .lst xs => ∀ c : Nat, xs.length ≤ c → K (.v (.int .i64 c)) n h
          | _ => False)
        | _ => False)
      | _, _ => False)
    | _ => False)
  | _ => False

end Go.Vm
