/- An abstract machine over the loaded code, part I: steps, regions in whatever order, code: evaluation. -/
import Derived.Test.YtkpnlmainmlogaaVmH
import Derived.Deep.LoopGhost
set_option linter.unusedVariables false
set_option linter.unusedSimpArgs false
namespace Go.Vm

/-- orders in which a region is gone through: `one i true r`: i only reads, is taken first; `one i false r`: i alone can come up; `two`: two can -/
inductive Sched where
  | done
  | one (i : Nat) (first : Bool) (rest : Sched)
  | two (i : Nat) (a : Sched) (j : Nat) (b : Sched)

def lin : List (Nat × Bool) → Sched
  | [] => .done
  | (i, q) :: r => .one i q (lin r)

/-- what is given at a region: own arrays and boxes to be frozen (by their slots), nil slices that become own arrays (slot, cells an element), slots to be forgotten -/
inductive Hint where
  | freeze (t : Nat)
  | virt (t sz : Nat)
  | keep (ts : List Nat)

/-- N: how many slots; np: how many own objects came in; own: the functions that take own memory; plan: the order of a region that draws one; hints: what is given at a region; cut: the regions ahead of which the states are gathered; res: a slice of own memory that is the result is handed out as own. -/
structure Ctx where
  N : Nat
  np : Nat
  own : FuncId → Bool
  plan : Nat → Option Sched
  hints : Nat → List Hint
  cut : Nat → Bool
  res : Bool := false

def isQuiet : Op → Bool
  | .move _ | .assign _ | .pick .. | .load .. | .nilCheck _ | .binOp .. | .unOp .. | .convert .. | .fieldAddr .. | .field .. | .indexAddr .. | .index .. | .extract .. | .build .. | .makeFunc .. | .slice .. => true
  | .call c => match c.callee with
    | .builtin .len => true
    | .builtin .max => true
    | .builtin .min => true
    | _ => false
  | _ => false

def St.put (σ : St) (N : Nat) (dst : Option Tmp) (x : AV) : St :=
  match dst with
  | none => σ
  | some d => match Nat.blt d N with
    | true => ⟨σ.n, σ.h, (d, x) :: σ.s⟩
    | false => σ
def putQ (n : Nat) (h : Hp) (s : List (Nat × AV)) (N : Nat) (dst : Option Tmp) (x : AV) (K : St → Prop) : Prop :=
  match dst with
  | none => K ⟨n, h, s⟩
  | some d => match Nat.blt d N with
    | true => frc x fun y => K ⟨n, h, (d, y) :: s⟩
    | false => K ⟨n, h, s⟩
theorem putQ_eq (n : Nat) (h : Hp) (s : List (Nat × AV)) (N : Nat) (dst : Option Tmp) (x : AV) (K : St → Prop) : putQ n h s N dst x K = K (St.put ⟨n, h, s⟩ N dst x) := by
  unfold putQ St.put
  cases dst with
  | none => rfl
  | some d => simp only [frc_eq]; cases Nat.blt d N <;> rfl

def execQ (P : Program) (Γ : Ctx) (o : Oper) (σ : St) (K : St → Prop) : Prop :=
  match σ with
  | ⟨n, h, s⟩ => match isQuiet o.op with
    | true => qop P h (St.ev ⟨n, h, s⟩) o.op fun x => putQ n h s Γ.N o.dst x K
    | false => match o.op with
      | .call c => (match c.callee with
        | .value f => callQ P Γ.own n h (St.ev ⟨n, h, s⟩ f) (c.args.toList.map (St.ev ⟨n, h, s⟩)) fun x n h => putQ n h s Γ.N o.dst x K
        | _ => eop P n h (St.ev ⟨n, h, s⟩) (.call c) fun x n h => putQ n h s Γ.N o.dst x K)
      | op => eop P n h (St.ev ⟨n, h, s⟩) op fun x n h => putQ n h s Γ.N o.dst x K

def bEq : Bool → Bool → Bool
  | true, b => b
  | false, b => !b

def opStep (P : Program) (Γ : Ctx) (ops : List Oper) (o : Oper) (σ : St) (K : St → Prop) : Prop :=
  match o.guard with
  | none => execQ P Γ o σ K
  | some (j, want) => match ops[j]? with
    | none => False
    | some oj => match oj.dst with
      | none => False
      | some t => match σ with
        | ⟨n, h, s⟩ => match get s t with
          | some (.v (.bool true)) => (match want with
            | true => execQ P Γ o ⟨n, h, s⟩ K
            | false => putQ n h s Γ.N o.dst (.tup []) K)
          | some (.v (.bool false)) => (match want with
            | false => execQ P Γ o ⟨n, h, s⟩ K
            | true => putQ n h s Γ.N o.dst (.tup []) K)
          | some (.sb b) => (match want with
            | true => Br b (execQ P Γ o ⟨n, h, (t, .v (.bool true)) :: s⟩ K) (putQ n h ((t, .v (.bool false)) :: s) Γ.N o.dst (.tup []) K)
            | false => Br b (putQ n h ((t, .v (.bool true)) :: s) Γ.N o.dst (.tup []) K) (execQ P Γ o ⟨n, h, (t, .v (.bool false)) :: s⟩ K))
          | some (.tup []) => putQ n h s Γ.N o.dst (.tup []) K
          | _ => False

def opsQ (P : Program) (Γ : Ctx) (ops : List Oper) : List Oper → St → (St → Prop) → Prop
  | [], σ, K => K σ
  | o :: rest, σ, K => opStep P Γ ops o σ fun σ' => opsQ P Γ ops rest σ' K

def planQ (P : Program) (Γ : Ctx) (ops : List Oper) : Sched → St → (St → Prop) → Prop
  | .done, σ, K => K σ
  | .one i _ rest, σ, K => (match ops[i]? with
    | some o => opStep P Γ ops o σ fun σ' => planQ P Γ ops rest σ' K
    | none => False)
  | .two i a j b, σ, K => (match ops[i]?, ops[j]? with
    | some o, some o' => (opStep P Γ ops o σ fun σ' => planQ P Γ ops a σ' K) ∧ (opStep P Γ ops o' σ fun σ' => planQ P Γ ops b σ' K)
    | _, _ => False)

/-- its value hangs on slots alone -/
def isStill : Op → Bool
  | .move _ | .assign _ | .slice .. => true
  | _ => false

def waitsF (ops : Array Oper) : Nat → Nat → Nat → Bool
  | 0, _, _ => false
  | f + 1, j, i => match ops[j]? with
    | some o => o.after.any fun e => Region.binds .any e && (e.on == i || waitsF ops f e.on i)
    | none => false

def Sched.depth : Sched → Nat
  | .done => 0
  | .one _ _ r => r.depth + 1
  | .two _ a _ _ => a.depth + 1

def okPlan (ops : Array Oper) : Sched → Array Bool → Bool
  | .done, L => (Region.ready .any ops L).isEmpty
  | .one i true rest, L => (Region.ready .any ops L).contains i && (Region.free .any ops L i && (((ops[i]?).map fun o => isQuiet o.op).getD false &&
      ((((ops[i]?).map fun o => isStill o.op).getD false || (List.range ops.size).all fun j => L.getD j true || (((ops[j]?).map fun o => isQuiet o.op).getD true || waitsF ops ops.size j i)) && okPlan ops rest (L.setIfInBounds i true))))
  | .one i false rest, L => decide (Region.ready .any ops L = [i]) && okPlan ops rest (L.setIfInBounds i true)
  | .two i a j b, L => decide (Region.ready .any ops L = [i, j]) && (a.depth == b.depth && (okPlan ops a (L.setIfInBounds i true) && okPlan ops b (L.setIfInBounds j true)))

def planOk (ops : Array Oper) (s : Sched) : Bool := Region.noSelect ops && (s.depth == ops.size && okPlan ops s (Array.replicate ops.size false))

/-- what is kept of the slots -/
def keepQ (s : List (Nat × AV)) : List Nat → (List (Nat × AV) → Prop) → Prop
  | [], K => K []
  | t :: ts, K => match get s t with
    | some x => frc x fun x => keepQ s ts fun r => K ((t, x) :: r)
    | none => keepQ s ts K
/-- own memory is let go at a slot: what the slot holds is frozen -/
def hintQ (σ : St) : List Hint → (St → Prop) → Prop
  | [], K => K σ
  | .freeze t :: r, K => (match σ with
    | ⟨n, h, s⟩ => match get s t with
      | some x => frzA h x fun y => frc y fun y => frcH (dels h (refsA x)) fun h' => hintQ ⟨n, h', (t, y) :: s⟩ r K
      | none => False)
  | .virt t sz :: r, K => (match σ with
    | ⟨n, h, s⟩ => match get s t with
      | some .nils => hintQ ⟨n + 1, (n, .arr sz []) :: h, (t, .os n sz 0 0) :: s⟩ r K
      | some (.os _ _ _ _) => hintQ ⟨n, h, s⟩ r K
      | _ => False)
  | .keep ts :: r, K => (match σ with
    | ⟨n, h, s⟩ => keepQ s ts fun s' => hintQ ⟨n, h, s'⟩ r K)

def regionQ (P : Program) (Γ : Ctx) (id : Nat) (ops : List Oper) (draw : Bool) (σ : St) (K : St → Prop) : Prop :=
  hintQ σ (Γ.hints id) fun σ => match draw with
    | false => opsQ P Γ ops ops σ K
    | true => match Γ.plan id with
      | some s => Ob (planOk ops.toArray s = true) (planQ P Γ ops s σ K)
      | none => False

/-- names changed, where all of them are known -/
def sren1 (ρ : Nat → Option Nat) (x : AV) : Option AV :=
  match x with
  | .op id off => (match ρ id with
    | some j => some (.op j off)
    | none => none)
  | .ep id sz i off => (match ρ id with
    | some j => some (.ep j sz i off)
    | none => none)
  | .os id sz off len => (match ρ id with
    | some j => some (.os j sz off len)
    | none => none)
  | .agg _ => none
  | .tup _ => none
  | .fn f [] [] => some (.fn f [] [])
  | .fn _ _ _ => none
  | x => some x
def srenL (ρ : Nat → Option Nat) : List AV → Option (List AV)
  | [] => some []
  | x :: xs => match sren1 ρ x, srenL ρ xs with
    | some y, some ys => some (y :: ys)
    | _, _ => none
def srenA (ρ : Nat → Option Nat) (x : AV) : Option AV :=
  match x with
  | .agg cs => (match srenL ρ cs with
    | some ds => some (.agg ds)
    | none => none)
  | .fn f a b => (match srenL ρ a, srenL ρ b with
    | some a', some b' => some (.fn f a' b')
    | _, _ => none)
  | x => sren1 ρ x
def srenO (ρ : Nat → Option Nat) : Obj → Option Obj
  | .box cs => (match srenL ρ cs with
    | some ds => some (.box ds)
    | none => none)
  | .arr sz xs => some (.arr sz xs)

/-- s says no more than σ, names changed by ρ (s's name, σ's name) -/
def LeS (ρ : List (Nat × Nat)) : List (Nat × AV) → St → Prop
  | [], _ => True
  | (t, x) :: r, σ => (match srenA (get ρ) x with
    | some y => get σ.s t = some y
    | none => False) ∧ LeS ρ r σ
def LeH (ρ : List (Nat × Nat)) : Hp → St → Prop
  | [], _ => True
  | (id, o) :: r, σ => (match get ρ id, srenO (get ρ) o with
    | some j, some o' => get σ.h j = some o'
    | _, _ => False) ∧ LeH ρ r σ
def injB : List (Nat × Nat) → Bool
  | [] => true
  | (k, v) :: r => r.all (fun p => !(Nat.beq p.1 k) && !(Nat.beq p.2 v)) && injB r
def belowB (n : Nat) : List (Nat × Nat) → Bool
  | [] => true
  | (k, _) :: r => Nat.blt k n && belowB n r
def fixB (ρ : List (Nat × Nat)) : Nat → Bool
  | 0 => true
  | k + 1 => (match get ρ k with
    | some j => Nat.beq j k
    | none => false) && fixB ρ k
def Le (p : Nat) (s σ : St) : Prop := ∃ ρ : List (Nat × Nat), (injB ρ && (belowB s.n ρ && fixB ρ p)) = true ∧ LeS ρ s.s σ ∧ LeH ρ s.h σ

/-- A loop: states S g for ghosts g that meet Inv; each round leads to a smaller one, or out. -/
structure Lp (p : Nat) (body : St → (Exit → St → Prop) → Prop) (σ : St) (Q : Exit → St → Prop) : Prop where
  out : ∃ (G : Type) (S : G → St) (Inv : G → Prop) (μ : G → Nat), (∃ g, Inv g ∧ Le p (S g) σ) ∧
    ∀ g, Inv g → body (S g) fun e σ' => match e with
      | .normal => ∃ g', Inv g' ∧ μ g' < μ g ∧ Le p (S g') σ'
      | e => Q e σ'

/-- States are gathered: whatever the way there, one of the states S g comes out; from each of them the rest holds. -/
structure Jn (p : Nat) (body : (St → Prop) → Prop) (K : St → Prop) : Prop where
  out : ∃ (G : Type) (S : G → St) (Inv : G → Prop), body (fun σ' => ∃ g, Inv g ∧ Le p (S g) σ') ∧ ∀ g, Inv g → K (S g)

def firstR : Code → Option Nat
  | .region id _ _ => some id
  | .seq a _ => firstR a
  | .block _ c => firstR c
  | .loop c => firstR c
  | _ => none
def cutAt (Γ : Ctx) (c : Code) : Bool :=
  match firstR c with
  | some id => Γ.cut id
  | none => false

def codeQ (P : Program) (Γ : Ctx) : Code → St → (Exit → St → Prop) → Prop
  | .skip, σ, Q => Q .normal σ
  | .region id ops draw, σ, Q => regionQ P Γ id ops.toList draw σ (Q .normal)
  | .seq a b, σ, Q => (match cutAt Γ b with
    | true => Jn Γ.np (fun K => codeQ P Γ a σ fun e σ' => match e with
      | .normal => K σ'
      | e => Q e σ') fun σ' => codeQ P Γ b σ' Q
    | false => codeQ P Γ a σ fun e σ' => match e with
      | .normal => codeQ P Γ b σ' Q
      | e => Q e σ')
  | .cond c x y, σ, Q => (match σ.ev c with
    | .v (.bool true) => codeQ P Γ x σ Q
    | .v (.bool false) => codeQ P Γ y σ Q
    | .sb b => Br b (codeQ P Γ x σ Q) (codeQ P Γ y σ Q)
    | _ => False)
  | .block id c, σ, Q => codeQ P Γ c σ fun e σ' => match e with
    | .exit i => (match Nat.beq i id with
      | true => Q .normal σ'
      | false => Q (.exit i) σ')
    | e => Q e σ'
  | .loop c, σ, Q => Lp Γ.np (codeQ P Γ c) σ Q
  | .exit id, σ, Q => Q (.exit id) σ
  | .ret, σ, Q => Q .ret σ
  | .label _, σ, Q => Q .normal σ
  | _, _, _ => False

/-- the results, out of their slots or cells -/
def resL (P : Program) (σ : St) : List ResultVar → (List AV → Prop) → Prop
  | [], K => K []
  | .tmp t :: r, K => (match get σ.s t with
    | some x => resL P σ r fun xs => K (x :: xs)
    | none => False)
  | .cell a t :: r, K => (match get σ.s a with
    | some X => ldQ P σ.h t X fun x => resL P σ r fun xs => K (x :: xs)
    | none => False)
def frzR (h : Hp) (x : AV) (K : AV → Prop) : Prop :=
  match x with
  | .tup vs => frzAL h vs fun vs' => K (.tup vs')
  | x => frzA h x K
def AV.norefT : AV → Bool
  | .tup vs => vs.all AV.noref
  | x => x.noref
def refsT : AV → List Nat
  | .tup vs => refsAL vs
  | x => refsA x
def upTo : Nat → List Nat
  | 0 => []
  | k + 1 => upTo k ++ [k]
/-- an own slice is handed out with its object -/
def finO (p : Nat) (h : Hp) (id sz off len : Nat) (K : AV → List Obj → Prop) : Prop :=
  match Nat.ble p id with
  | true => (match objsOf h (upTo p ++ [id]) with
    | some hs => (match hs.all objPure with
      | true => K (.os p sz off len) hs
      | false => False)
    | none => False)
  | false => (match objsOf h (upTo p) with
    | some hs => (match hs.all objPure with
      | true => K (.os id sz off len) hs
      | false => False)
    | none => False)
def finS (b : Bool) (x : AV) : Option (Nat × Nat × Nat × Nat) :=
  match b with
  | false => none
  | true => match x with
    | .os id sz off len => some (id, sz, off, len)
    | _ => none
/-- the end of a function: its result is frozen (or, an own address, handed out with its object); the own memory that came in is handed back -/
def finQ (p : Nat) (h : Hp) (x : AV) (K : AV → List Obj → Prop) : Prop :=
  match x with
  | .op id off => (match Nat.ble p id with
    | true => (match objsOf h (upTo p ++ [id]) with
      | some hs => (match hs.all objPure with
        | true => K (.op p off) hs
        | false => False)
      | none => False)
    | false => False)
  | x => frzR h x fun y => match objsOf (dels h (refsT x)) (upTo p) with
    | some hs => (match y.norefT && hs.all objPure with
      | true => K y hs
      | false => False)
    | none => False
def finB (b : Bool) (p : Nat) (h : Hp) (x : AV) (K : AV → List Obj → Prop) : Prop :=
  match finS b x with
  | some (id, sz, off, len) => finO p h id sz off len K
  | none => finQ p h x K
def one? : List AV → AV
  | [x] => x
  | xs => .tup xs
def retQ (P : Program) (Γ : Ctx) (rs : List ResultVar) (K : AV → List Obj → Prop) : Exit → St → Prop
  | .normal, σ => resL P σ rs fun xs => finB Γ.res Γ.np σ.h (one? xs) K
  | .ret, σ => resL P σ rs fun xs => finB Γ.res Γ.np σ.h (one? xs) K
  | _, _ => False
def slotsOf : Nat → List AV → List (Nat × AV)
  | _, [] => []
  | k, x :: xs => (k, x) :: slotsOf (k + 1) xs

end Go.Vm
