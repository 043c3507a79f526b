/- An abstract machine over the loaded code, part I: steps, regions in whatever order, code: evaluation. An abstract machine over the loaded code, part P: operations whose value hangs on slots alone. An abstract machine over the loaded code, part J: steps, regions in whatever order, code: what the evaluation says is so. An abstract machine over the loaded code, part L: hints, regions, loops, functions: what the evaluation says is so. An abstract machine over the loaded code, part M: a contract out of the code. -/
import Derived.Deep.LoopGhost
import Derived.OrdersHeld
import Derived.Test.YtgcplfplbcpemaaGreatM2
set_option linter.unusedVariables false
set_option linter.unusedSimpArgs false
namespace Go.Vm

/-- orders in which a region is gone through: `one i true r`: i only reads, is taken first; `one i false r`: i alone can come up; `alt i a (alt j b .. stop)`: i, j, .. can; `wch i r`: the load i is taken first, what it reads is watched -/
inductive Sched where
  | done
  | one (i : Nat) (first : Bool) (rest : Sched)
  | alt (i : Nat) (a : Sched) (more : Sched)
  | stop
  | wch (i : Nat) (rest : Sched)

def lin : List (Nat × Bool) → Sched
  | [] => .done
  | (i, q) :: r => .one i q (lin r)

/-- what is given at a region: own arrays and boxes to be frozen (by their slots), nil slices that become own arrays (slot, cells an element; virtB: in a box, slot, cell, cells an element), a box's cells to be frozen (freezeB), slots to be forgotten -/
inductive Hint where
  | freeze (t : Nat)
  | virt (t sz : Nat)
  | keep (ts : List Nat)
  | virtB (t c sz : Nat)
  | freezeB (t : Nat)

/-- N: how many slots; np: how many own objects came in; own: the functions that take own memory; plan: the order of a region that draws one; hints: what is given at a region; cut: the regions ahead of which the states are gathered; res: a slice of own memory that is the result is handed out as own. -/
structure Ctx where
  N : Nat
  np : Nat
  own : FuncId → Bool
  plan : Nat → Option Sched
  hints : Nat → List Hint
  cut : Nat → Bool
  res : Bool := false
  lend : FuncId → Bool := fun _ => false

def isQuiet : Op → Bool
  | .move _ | .assign _ | .pick .. | .load .. | .nilCheck _ | .binOp .. | .unOp .. | .convert .. | .fieldAddr .. | .field .. | .indexAddr .. | .index .. | .extract .. | .build .. | .makeFunc .. | .slice _ _ _ _ none => true
  | .call c => match c.callee with
    | .builtin .len => true
    | .builtin .max => true
    | .builtin .min => true
    | _ => false
  | _ => false

def St.put (σ : St) (N : Nat) (dst : Option Tmp) (x : AV) : St :=
  match dst with
  | none => σ
  | some d => match Nat.blt d N with
    | true => ⟨σ.n, σ.h, (d, x) :: σ.s⟩
    | false => σ
def putQ (n : Nat) (h : Hp) (s : List (Nat × AV)) (N : Nat) (dst : Option Tmp) (x : AV) (K : St → Prop) : Prop :=
  match dst with
  | none => K ⟨n, h, s⟩
  | some d => match Nat.blt d N with
    | true => frc x fun y => K ⟨n, h, (d, y) :: s⟩
    | false => K ⟨n, h, s⟩
theorem putQ_eq (n : Nat) (h : Hp) (s : List (Nat × AV)) (N : Nat) (dst : Option Tmp) (x : AV) (K : St → Prop) : putQ n h s N dst x K = K (St.put ⟨n, h, s⟩ N dst x) := by
  unfold putQ St.put
  cases dst with
  | none => rfl
  | some d => simp only [frc_eq]; cases Nat.blt d N <;> rfl

def execQ (P : Program) (Γ : Ctx) (o : Oper) (σ : St) (K : St → Prop) : Prop :=
  match σ with
  | ⟨n, h, s⟩ => match isQuiet o.op with
    | true => qop P h (St.ev ⟨n, h, s⟩) o.op fun x => putQ n h s Γ.N o.dst x K
    | false => match o.op with
      | .call c => (match c.callee with
        | .value f => callQ P Γ.own Γ.lend n h (St.ev ⟨n, h, s⟩ f) (c.args.toList.map (St.ev ⟨n, h, s⟩)) fun x n h => frcN n fun n => frcH h fun h => putQ n h s Γ.N o.dst x K
        | _ => eop P n h (St.ev ⟨n, h, s⟩) (.call c) fun x n h => frcN n fun n => frcH h fun h => putQ n h s Γ.N o.dst x K)
      | op => eop P n h (St.ev ⟨n, h, s⟩) op fun x n h => frcN n fun n => frcH h fun h => putQ n h s Γ.N o.dst x K

def opStep (P : Program) (Γ : Ctx) (ops : List Oper) (o : Oper) (σ : St) (K : St → Prop) : Prop :=
  match o.guard with
  | none => execQ P Γ o σ K
  | some (j, want) => match ops[j]? with
    | none => False
    | some oj => match oj.dst with
      | none => False
      | some t => match σ with
        | ⟨n, h, s⟩ => match get s t with
          | some (.v (.bool true)) => (match want with
            | true => execQ P Γ o ⟨n, h, s⟩ K
            | false => putQ n h s Γ.N o.dst (.tup []) K)
          | some (.v (.bool false)) => (match want with
            | false => execQ P Γ o ⟨n, h, s⟩ K
            | true => putQ n h s Γ.N o.dst (.tup []) K)
          | some (.sb b) => (match want with
            | true => Br b (execQ P Γ o ⟨n, h, (t, .v (.bool true)) :: s⟩ K) (putQ n h ((t, .v (.bool false)) :: s) Γ.N o.dst (.tup []) K)
            | false => Br b (putQ n h ((t, .v (.bool true)) :: s) Γ.N o.dst (.tup []) K) (execQ P Γ o ⟨n, h, (t, .v (.bool false)) :: s⟩ K))
          | some (.tup []) => putQ n h s Γ.N o.dst (.tup []) K
          | _ => False

def opsQ (P : Program) (Γ : Ctx) (ops : List Oper) : List Oper → St → (St → Prop) → Prop
  | [], σ, K => K σ
  | o :: rest, σ, K => opStep P Γ ops o σ fun σ' => opsQ P Γ ops rest σ' K

/-- own memory that an operation may touch, where that is known -/
def touchQ (σ : St) (o : Oper) : Option (List Nat) :=
  match o.guard with
  | some _ => none
  | none => match o.op with
    | .alloc _ => some []
    | .box _ _ => some []
    | .buildSlice _ _ _ => some []
    | .call c => (match c.callee with
      | .value f => some (touchC σ.h (σ.ev f) (c.args.toList.map σ.ev))
      | _ => none)
    | _ => none

def waitsF (ops : Array Oper) : Nat → Nat → Nat → Bool
  | 0, _, _ => false
  | f + 1, j, i => match ops[j]? with
    | some o => o.after.toList.any fun e => Region.binds .any e && (Nat.beq e.on i || waitsF ops f e.on i)
    | none => false

def hasB (h : Hp) (id : Nat) : Bool := match get h id with
  | some _ => true
  | none => false
/-- what is watched is not touched -/
def apartB (h : Hp) (id : Nat) : List Nat → Bool
  | [] => true
  | x :: r => !(Nat.beq x id) && (hasB h x && apartB h id r)
def watchB (ops : List Oper) (j : Nat) (σ : St) (o : Oper) : List (Nat × Nat) → Bool
  | [] => true
  | (i, id) :: r => (isQuiet o.op || (waitsF ops.toArray ops.toArray.size j i || (hasB σ.h id && (match touchQ σ o with
      | some T => apartB σ.h id T
      | none => false)))) && watchB ops j σ o r

def planQ (P : Program) (Γ : Ctx) (ops : List Oper) (Z : List (Nat × Nat)) : Sched → St → (St → Prop) → Prop
  | .done, σ, K => K σ
  | .one i _ rest, σ, K => (match ops[i]? with
    | some o => match watchB ops i σ o Z with
      | true => opStep P Γ ops o σ fun σ' => planQ P Γ ops Z rest σ' K
      | false => False
    | none => False)
  | .alt i a more, σ, K => (match ops[i]? with
    | some o => (match watchB ops i σ o Z with
      | true => (opStep P Γ ops o σ fun σ' => planQ P Γ ops Z a σ' K) ∧ planQ P Γ ops Z more σ K
      | false => False)
    | none => False)
  | .stop, _, _ => True
  | .wch i rest, σ, K => (match ops[i]? with
    | some o => (match o.op, o.guard with
      | .load _ x, none => (match σ.ev x with
        | .fp _ => opStep P Γ ops o σ fun σ' => planQ P Γ ops Z rest σ' K
        | .op id _ => opStep P Γ ops o σ fun σ' => planQ P Γ ops ((i, id) :: Z) rest σ' K
        | .ep id _ _ _ => opStep P Γ ops o σ fun σ' => planQ P Γ ops ((i, id) :: Z) rest σ' K
        | _ => False)
      | _, _ => False)
    | none => False)

/-- its value hangs on slots alone -/
def isStill (o : Op) : Bool := !isLd o

/-- it changes no block that was there -/
def isMild (own : FuncId → Bool) : Op → Bool
  | .alloc _ => true
  | .box _ _ => true
  | .buildSlice _ _ _ => true
  | .call c => match c.callee with
    | .value (.func f) => !own f
    | _ => false
  | _ => false

def Sched.depth : Sched → Nat
  | .done => 0
  | .one _ _ r => r.depth + 1
  | .alt _ a _ => a.depth + 1
  | .stop => 0
  | .wch _ r => r.depth + 1
def Sched.heads : Sched → List Nat
  | .alt i _ more => i :: more.heads
  | _ => []

/-- ch: within a chain of alternatives, of this depth -/
def okPlan (own : FuncId → Bool) (ops : Array Oper) : Option Nat → Sched → Array Bool → Bool
  | none, .done, L => (Region.ready .any ops L).isEmpty
  | none, .one i true rest, L => (Region.ready .any ops L).contains i && (Region.free .any ops L i && (((ops[i]?).map fun o => isQuiet o.op).getD false &&
      ((((ops[i]?).map fun o => isStill o.op).getD false || (List.range ops.size).all fun j => L.getD j true || (((ops[j]?).map fun o => isQuiet o.op || isMild own o.op).getD true || waitsF ops ops.size j i)) && okPlan own ops none rest (L.setIfInBounds i true))))
  | none, .one i false rest, L => decide (Region.ready .any ops L = [i]) && okPlan own ops none rest (L.setIfInBounds i true)
  | none, .alt i a more, L => decide (Region.ready .any ops L = i :: more.heads) && (okPlan own ops none a (L.setIfInBounds i true) && okPlan own ops (some a.depth) more L)
  | some d, .alt i a more, L => a.depth == d && (okPlan own ops none a (L.setIfInBounds i true) && okPlan own ops (some d) more L)
  | some _, .stop, _ => true
  | none, .wch i rest, L => (Region.ready .any ops L).contains i && (Region.free .any ops L i && okPlan own ops none rest (L.setIfInBounds i true))
  | _, _, _ => false

def planOk (own : FuncId → Bool) (ops : Array Oper) (s : Sched) : Bool := Region.noSelect ops && (s.depth == ops.size && okPlan own ops none s (Array.replicate ops.size false))

/-- what is kept of the slots -/
def keepQ (s : List (Nat × AV)) : List Nat → (List (Nat × AV) → Prop) → Prop
  | [], K => K []
  | t :: ts, K => match get s t with
    | some x => frc x fun x => keepQ s ts fun r => K ((t, x) :: r)
    | none => keepQ s ts K
/-- own memory is let go at a slot: what the slot holds is frozen -/
def hintQ (σ : St) : List Hint → (St → Prop) → Prop
  | [], K => K σ
  | .freeze t :: r, K => (match σ with
    | ⟨n, h, s⟩ => match get s t with
      | some x => frzA h x fun y => frc y fun y => frcH (dels h (refsA x)) fun h' => hintQ ⟨n, h', (t, y) :: s⟩ r K
      | none => False)
  | .virt t sz :: r, K => (match σ with
    | ⟨n, h, s⟩ => match get s t with
      | some .nils => frcN (n + 1) fun n1 => hintQ ⟨n1, (n, .arr sz []) :: h, (t, .os n sz 0 0) :: s⟩ r K
      | some (.os _ _ _ _) => hintQ ⟨n, h, s⟩ r K
      | _ => False)
  | .keep ts :: r, K => (match σ with
    | ⟨n, h, s⟩ => keepQ s ts fun s' => hintQ ⟨n, h, s'⟩ r K)
  | .virtB t c sz :: r, K => (match σ with
    | ⟨n, h, s⟩ => match get s t with
      | some (.op id 0) => (match get h id with
        | some (.box cs) => (match cs[c]? with
          | some .nils => frcL (cs.set c (.os n sz 0 0)) fun ds => frcH (del h id) fun h' => frcN (n + 1) fun n1 => hintQ ⟨n1, (n, .arr sz []) :: (id, .box ds) :: h', s⟩ r K
          | some (.os _ _ _ _) => hintQ ⟨n, h, s⟩ r K
          | _ => False)
        | _ => False)
      | _ => False)
  | .freezeB t :: r, K => (match σ with
    | ⟨n, h, s⟩ => match get s t with
      | some (.op id 0) => (match get h id with
        | some (.box cs) => (match elemN id (refsL cs) with
          | false => frzL h cs fun ds => frcL ds fun ds => frcH (dels (del h id) (refsL cs)) fun h' => hintQ ⟨n, (id, .box ds) :: h', s⟩ r K
          | true => False)
        | _ => False)
      | _ => False)

def regionQ (P : Program) (Γ : Ctx) (id : Nat) (ops : List Oper) (draw : Bool) (σ : St) (K : St → Prop) : Prop :=
  hintQ σ (Γ.hints id) fun σ => match draw with
    | false => opsQ P Γ ops ops σ K
    | true => match Γ.plan id with
      | some s => Ob (planOk Γ.own ops.toArray s = true) (planQ P Γ ops [] s σ K)
      | none => False

/-- names changed, where all of them are known -/
def sren1 (ρ : Nat → Option Nat) (x : AV) : Option AV :=
  match x with
  | .op id off => (match ρ id with
    | some j => some (.op j off)
    | none => none)
  | .ep id sz i off => (match ρ id with
    | some j => some (.ep j sz i off)
    | none => none)
  | .os id sz off len => (match ρ id with
    | some j => some (.os j sz off len)
    | none => none)
  | .agg _ => none
  | .tup _ => none
  | .fn f [] [] => some (.fn f [] [])
  | .fn _ _ _ => none
  | x => some x
def srenL (ρ : Nat → Option Nat) : List AV → Option (List AV)
  | [] => some []
  | x :: xs => match sren1 ρ x, srenL ρ xs with
    | some y, some ys => some (y :: ys)
    | _, _ => none
def srenA (ρ : Nat → Option Nat) (x : AV) : Option AV :=
  match x with
  | .agg cs => (match srenL ρ cs with
    | some ds => some (.agg ds)
    | none => none)
  | .fn f a b => (match srenL ρ a, srenL ρ b with
    | some a', some b' => some (.fn f a' b')
    | _, _ => none)
  | x => sren1 ρ x
def srenO (ρ : Nat → Option Nat) : Obj → Option Obj
  | .box cs => (match srenL ρ cs with
    | some ds => some (.box ds)
    | none => none)
  | .arr sz xs => some (.arr sz xs)

/-- s says no more than σ, names changed by ρ (s's name, σ's name) -/
def LeS (ρ : List (Nat × Nat)) : List (Nat × AV) → St → Prop
  | [], _ => True
  | (t, x) :: r, σ => (match srenA (get ρ) x with
    | some y => get σ.s t = some y
    | none => False) ∧ LeS ρ r σ
def LeH (ρ : List (Nat × Nat)) : Hp → St → Prop
  | [], _ => True
  | (id, o) :: r, σ => (match get ρ id, srenO (get ρ) o with
    | some j, some o' => get σ.h j = some o'
    | _, _ => False) ∧ LeH ρ r σ
def injB : List (Nat × Nat) → Bool
  | [] => true
  | (k, v) :: r => r.all (fun p => !(Nat.beq p.1 k) && !(Nat.beq p.2 v)) && injB r
def belowB (n : Nat) : List (Nat × Nat) → Bool
  | [] => true
  | (k, _) :: r => Nat.blt k n && belowB n r
def fixB (ρ : List (Nat × Nat)) : Nat → Bool
  | 0 => true
  | k + 1 => (match get ρ k with
    | some j => Nat.beq j k
    | none => false) && fixB ρ k
def Le (p : Nat) (s σ : St) : Prop := ∃ ρ : List (Nat × Nat), (injB ρ && (belowB s.n ρ && fixB ρ p)) = true ∧ LeS ρ s.s σ ∧ LeH ρ s.h σ

/-- A loop: states S g for ghosts g that meet Inv; each round leads to a smaller one, or out. -/
structure Lp0 (p : Nat) (body : St → (Exit → St → Prop) → Prop) (σ : St) (Q : Exit → St → Prop) : Prop where
  out : ∃ (G : Type) (S : G → St) (Inv : G → Prop) (μ : G → Nat), (∃ g, Inv g ∧ Le p (S g) σ) ∧
    ∀ g, Inv g → body (S g) fun e σ' => match e with
      | .normal => ∃ g', Inv g' ∧ μ g' < μ g ∧ Le p (S g') σ'
      | e => Q e σ'
/-- a name at which the evaluation stops -/
structure Stp (p : Prop) : Prop where
  out : p
/-- at most n rounds one by one, then with ghosts -/
def LpN (p : Nat) (body : St → (Exit → St → Prop) → Prop) (Q : Exit → St → Prop) : Nat → St → Prop
  | 0, σ => Lp0 p body σ Q
  | n + 1, σ => Lp0 p body σ Q ∨ body σ fun e σ' => match e with
      | .normal => Stp (LpN p body Q n σ')
      | e => Q e σ'
structure Lp (p : Nat) (body : St → (Exit → St → Prop) → Prop) (σ : St) (Q : Exit → St → Prop) : Prop where
  out : ∃ n, LpN p body Q n σ

/-- States are gathered: whatever the way there, one of the states S g comes out; from each of them the rest holds. -/
structure Jn (p : Nat) (body : (St → Prop) → Prop) (K : St → Prop) : Prop where
  out : ∃ (G : Type) (S : G → St) (Inv : G → Prop), body (fun σ' => ∃ g, Inv g ∧ Le p (S g) σ') ∧ ∀ g, Inv g → K (S g)

def firstR : Code → Option Nat
  | .region id _ _ => some id
  | .seq a _ => firstR a
  | .block _ c => firstR c
  | .loop c => firstR c
  | _ => none
def cutAt (Γ : Ctx) (c : Code) : Bool :=
  match firstR c with
  | some id => Γ.cut id
  | none => false

def codeQ (P : Program) (Γ : Ctx) : Code → St → (Exit → St → Prop) → Prop
  | .skip, σ, Q => Q .normal σ
  | .region id ops draw, σ, Q => regionQ P Γ id ops.toList draw σ (Q .normal)
  | .seq a b, σ, Q => (match cutAt Γ b with
    | true => Jn Γ.np (fun K => codeQ P Γ a σ fun e σ' => match e with
      | .normal => K σ'
      | e => Q e σ') fun σ' => codeQ P Γ b σ' Q
    | false => codeQ P Γ a σ fun e σ' => match e with
      | .normal => codeQ P Γ b σ' Q
      | e => Q e σ')
  | .cond c x y, σ, Q => (match σ.ev c with
    | .v (.bool true) => codeQ P Γ x σ Q
    | .v (.bool false) => codeQ P Γ y σ Q
    | .sb b => Br b (codeQ P Γ x σ Q) (codeQ P Γ y σ Q)
    | _ => False)
  | .block id c, σ, Q => codeQ P Γ c σ fun e σ' => match e with
    | .exit i => (match Nat.beq i id with
      | true => Q .normal σ'
      | false => Q (.exit i) σ')
    | e => Q e σ'
  | .loop c, σ, Q => Lp Γ.np (codeQ P Γ c) σ Q
  | .exit id, σ, Q => Q (.exit id) σ
  | .ret, σ, Q => Q .ret σ
  | .label _, σ, Q => Q .normal σ
  | _, _, _ => False

/-- the results, out of their slots or cells -/
def resL (P : Program) (σ : St) : List ResultVar → (List AV → Prop) → Prop
  | [], K => K []
  | .tmp t :: r, K => (match get σ.s t with
    | some x => resL P σ r fun xs => K (x :: xs)
    | none => False)
  | .cell a t :: r, K => (match get σ.s a with
    | some X => ldQ P σ.h t X fun x => resL P σ r fun xs => K (x :: xs)
    | none => False)
def frzR (h : Hp) (x : AV) (K : AV → Prop) : Prop :=
  match x with
  | .tup vs => frzAL h vs fun vs' => K (.tup vs')
  | x => frzA h x K
def AV.norefT : AV → Bool
  | .tup vs => vs.all AV.noref
  | x => x.noref
def refsT : AV → List Nat
  | .tup vs => refsAL vs
  | x => refsA x
def upTo : Nat → List Nat
  | 0 => []
  | k + 1 => upTo k ++ [k]
/-- an own slice is handed out with its object -/
def finO (p : Nat) (h : Hp) (id sz off len : Nat) (K : AV → List Obj → Prop) : Prop :=
  match Nat.ble p id with
  | true => (match objsOf h (upTo p ++ [id]) with
    | some hs => renOs (inN (upTo p ++ [id])) hs fun hs => K (.os p sz off len) hs
    | none => False)
  | false => (match objsOf h (upTo p) with
    | some hs => renOs (inN (upTo p)) hs fun hs => K (.os id sz off len) hs
    | none => False)
/-- all own memory that the result leads to is handed out with it -/
def finG (p : Nat) (h : Hp) (x : AV) (K : AV → List Obj → Prop) : Prop :=
  frcNs (addN (upTo p) (refsT x)) fun ids => match objsOf h ids with
  | some hs => renOs (inN ids) hs fun hs => frcT (renT (inN ids) x) fun y => K y hs
  | none => False
/-- the end of a function: its result is frozen (or, an own address, handed out with its object); the own memory that came in is handed back -/
def finQ (p : Nat) (h : Hp) (x : AV) (K : AV → List Obj → Prop) : Prop :=
  match x with
  | .op id off => (match Nat.ble p id with
    | true => (match objsOf h (upTo p ++ [id]) with
      | some hs => renOs (inN (upTo p ++ [id])) hs fun hs => K (.op p off) hs
      | none => False)
    | false => False)
  | x => frzR h x fun y => match objsOf (dels h (refsT x)) (upTo p) with
    | some hs => (match y.norefT with
      | true => renOs (inN (upTo p)) hs fun hs => K y hs
      | false => False)
    | none => False
def finB (b : Bool) (p : Nat) (h : Hp) (x : AV) (K : AV → List Obj → Prop) : Prop :=
  match b with
  | false => finQ p h x K
  | true => match x with
    | .os id sz off len => finO p h id sz off len K
    | .agg cs => finG p h (.agg cs) K
    | .tup vs => finG p h (.tup vs) K
    | x => finQ p h x K
def one? : List AV → AV
  | [x] => x
  | xs => .tup xs
def retQ (P : Program) (Γ : Ctx) (rs : List ResultVar) (K : AV → List Obj → Prop) : Exit → St → Prop
  | .normal, σ => resL P σ rs fun xs => finB Γ.res Γ.np σ.h (one? xs) K
  | .ret, σ => resL P σ rs fun xs => finB Γ.res Γ.np σ.h (one? xs) K
  | _, _ => False
def slotsOf : Nat → List AV → List (Nat × AV)
  | _, [] => []
  | k, x :: xs => (k, x) :: slotsOf (k + 1) xs
/-- the state at a function's beginning -/
def initQ (hs : List Obj) (args : List AV) (K : St → Prop) : Prop := frcN hs.length fun n => frcH (enumH 0 hs) fun h => frcS (slotsOf 0 args) fun s => K ⟨n, h, s⟩

end Go.Vm

set_option linter.unusedVariables false
set_option linter.unusedSimpArgs false
namespace Go.Vm

/-- where it answers, it answers so in every world, and leaves it -/
def Pur (P : Program) {α : Type} (s : Sem α) : Prop := ∀ w v w', s.run P w = .ok v w' → w' = w ∧ ∀ w2, s.run P w2 = .ok v w2

section
variable {P : Program} {α β : Type}
theorem Pur.pure (a : α) : Pur P (Pure.pure a : Sem α) := fun w v w' h => by simp at h; obtain ⟨rfl, rfl⟩ := h; exact ⟨rfl, fun w2 => by simp⟩
theorem Pur.halt (x : Halt) : Pur P (.halt x : Sem α) := fun w v w' h => by simp at h
theorem Pur.program : Pur P Go.program := fun w v w' h => by
  rw [run_program] at h; cases h; exact ⟨rfl, fun w2 => run_program _ _⟩
theorem Pur.bind {x : Sem α} {f : α → Sem β} (hx : Pur P x) (hf : ∀ a, Pur P (f a)) : Pur P (x >>= f) := fun w v w' h => by
  rw [Sem.run_bind] at h
  cases hr : x.run P w with
  | halt a b => rw [hr] at h; cases h
  | ok a w1 =>
    rw [hr] at h
    obtain ⟨rfl, h1⟩ := hx w a w1 hr
    obtain ⟨rfl, h2⟩ := hf a _ v w' h
    exact ⟨rfl, fun w2 => by rw [Sem.run_bind, h1 w2]; exact h2 w2⟩
theorem Pur.never {x : Sem α} (h : ∀ w v w', x.run P w ≠ .ok v w') : Pur P x := fun w v w' hh => absurd hh (h w v w')
theorem typeInfo_pur (t : TypeId) : Pur P (typeInfo t) := by
  unfold typeInfo
  refine Pur.bind Pur.program fun p => ?_
  split
  · exact Pur.pure _
  · exact Pur.halt _
theorem underlying_pur (t : TypeId) : Pur P (underlying t) := by
  unfold underlying
  refine Pur.bind Pur.program fun p => ?_
  split
  · exact Pur.pure _
  · exact Pur.halt _
theorem sizeOf_pur (t : TypeId) : Pur P (sizeOf t) := Pur.bind (typeInfo_pur t) fun _ => Pur.pure _
/-- it changes no block that was there -/
def Adds (P : Program) {α : Type} (s : Sem α) : Prop := ∀ w v w', s.run P w = .ok v w' → Same w w'
theorem Pur.adds {s : Sem α} (h : Pur P s) : Adds P s := fun w v w' hr => by rw [(h w v w' hr).1]; exact .refl
theorem Adds.bind {x : Sem α} {f : α → Sem β} (hx : Adds P x) (hf : ∀ a, Adds P (f a)) : Adds P (x >>= f) := fun w v w' h => by
  rw [Sem.run_bind] at h
  cases hr : x.run P w with
  | halt a b => rw [hr] at h; cases h
  | ok a w1 => rw [hr] at h; exact (hx w a w1 hr).trans (hf a _ v w' h)
theorem Adds.newObj (o : Go.Obj) : Adds P (newObj o) := fun w v w' h => by
  rw [run_newObj] at h; cases h
  intro b hb
  exact Array.getElem?_push_lt hb ▸ (Array.getElem?_eq_getElem hb).symm ▸ rfl
theorem Adds.pure (a : α) : Adds P (Pure.pure a : Sem α) := (Pur.pure a).adds
theorem zeroValue_pur (t : TypeId) : Pur P (zeroValue t) := by
  unfold zeroValue
  refine Pur.bind (typeInfo_pur t) fun i => ?_
  split
  · exact Pur.pure _
  · exact Pur.halt _
theorem newVar_adds (t : TypeId) (v : Value) : Adds P (newVar t v) := Adds.bind (Adds.newObj _) fun _ => .pure _
theorem alloc_adds (t : TypeId) : Adds P (Instr.alloc t true (.tuple #[])) := Adds.bind (zeroValue_pur t).adds fun _ => Adds.bind (newVar_adds _ _) fun _ => .pure _
theorem box_adds (t : TypeId) (v : Value) : Adds P (Instr.box t v) := Adds.bind (newVar_adds _ _) fun _ => .pure _
theorem buildSlice_adds (t : TypeId) (n : Nat) (parts : Array (Nat × Value)) : Adds P (Instr.buildSlice t n parts) := by
  unfold Instr.buildSlice
  refine Adds.bind (underlying_pur t).adds fun d => ?_
  cases d <;> try exact (Pur.halt _).adds
  refine Adds.bind (sizeOf_pur _).adds fun m => ?_
  extract_lets jp2 jp1
  have h2 : ∀ z, Adds P (jp2 z) := by
    intro z
    simp only [jp2]
    split
    · exact Adds.bind (Adds.bind (Adds.newObj _) fun _ => .pure _) fun _ => .pure _
    · exact (Pur.halt _).adds
  have h1 : ∀ r, Adds P (jp1 r) := by
    intro r
    simp only [jp1]
    split
    · exact Adds.bind (.pure _) fun _ => h2 _
    · exact Adds.bind (zeroValue_pur _).adds fun _ => Adds.bind (.pure _) fun _ => h2 _
  split
  · exact Adds.bind (Pur.halt _).adds fun u => h1 ()
  · exact h1 ()

end
end Go.Vm

set_option linter.unusedVariables false
set_option linter.unusedSimpArgs false
namespace Go.Vm

/-- The state tells the truth of the frame and the world. -/
structure Sim (N : Nat) (ι : Inj) (E : Nat → Prop) (σ : St) (a : Act) (w : World) : Prop where
  rep : Rep ι E w σ.n σ.h
  slots : ∀ t x, get σ.s t = some x → ∃ v, a.tmps[t]? = some v ∧ Rel E w ι x v
  size : a.tmps.size = N
  defers : a.defers = []

section
variable {P : Program} {E : Nat → Prop} {w : World} {ι : Inj} {N : Nat} {σ : St} {a : Act}

theorem Sim.ev (s : Sim N ι E σ a w) (x : Operand) : Rel E w ι (σ.ev x) (a.eval x) := by
  cases x with
  | tmp t =>
    simp only [St.ev, Act.eval]
    cases hg : get σ.s t with
    | none => exact .junk _
    | some y =>
      obtain ⟨v, h1, h2⟩ := s.slots t y hg
      simp only
      have : a.tmps.getD t undef = v := by simp [h1]
      rw [this]; exact h2
  | const v => exact rel_ofValue v
  | global g => exact .junk _
  | func f => exact .fn _ [] [] #[] #[] rfl rfl (fun i x y hx _ => by simp at hx) (fun i x y hx _ => by simp at hx)

theorem Sim.keep {ι' : Inj} {E' : Nat → Prop} {w' : World} {n' : Nat} {h' : Hp} (s : Sim N ι E σ a w) (r : Rep ι' E' w' n' h') (x : Ext ι σ.h E w ι' h' E' w') : Sim N ι' E' ⟨n', h', σ.s⟩ a w' :=
  ⟨r, fun t y hg => by
    obtain ⟨v, h1, h2⟩ := s.slots t y hg
    exact ⟨v, h1, x.rel s.rep h2⟩, s.size, s.defers⟩

theorem Sim.put (s : Sim N ι E σ a w) {x : AV} {v : Value} (dst : Option Tmp) (hr : Rel E w ι x v) : Sim N ι E (σ.put N dst x) (a.put dst v) w := by
  cases dst with
  | none => exact s
  | some d =>
    simp only [St.put, Act.put]
    cases hb : Nat.blt d N with
    | true =>
      have hlt' : d + 1 ≤ N := by simpa [Nat.blt] using hb
      have hlt : d < N := hlt'
      refine ⟨s.rep, fun t y hg => ?_, by simp; exact s.size, s.defers⟩
      rw [get_cons] at hg
      split at hg
      · rename_i e; subst e; cases hg
        exact ⟨v, by simp [s.size, hlt], hr⟩
      · rename_i e
        obtain ⟨u, h1, h2⟩ := s.slots t y hg
        exact ⟨u, by simp [Array.getElem?_setIfInBounds_ne e, h1], h2⟩
    | false =>
      have hge : N ≤ d := by
        rcases Nat.lt_or_ge d N with h | h
        · have h' : d + 1 ≤ N := h
          have : Nat.blt d N = true := by simpa [Nat.blt] using h'
          rw [this] at hb; cases hb
        · exact h
      have : a.tmps.setIfInBounds d v = a.tmps := by
        apply Array.ext_getElem?
        intro i
        rw [Array.getElem?_setIfInBounds]
        split
        · rename_i e; subst e
          split
          · rename_i hlt; have := s.size; omega
          · rename_i hge'; rw [Array.getElem?_eq_none (by omega)]
        · rfl
      rw [this]; exact s

theorem Sim.more (s : Sim N ι E σ a w) {t : Nat} {x : AV} (hx : ∃ v, a.tmps[t]? = some v ∧ Rel E w ι x v) : Sim N ι E ⟨σ.n, σ.h, (t, x) :: σ.s⟩ a w :=
  ⟨s.rep, fun t' y hg => by
    simp only [get_cons] at hg
    split at hg
    · rename_i e; subst e; cases hg; exact hx
    · exact s.slots t' y hg, s.size, s.defers⟩

/-- What a step leaves. -/
def Left (P : Program) (N : Nat) (ι : Inj) (E : Nat → Prop) (σ : St) (w : World) (K : St → Prop) (a' : Act) (w' : World) : Prop :=
  ∃ σ' ι' E', K σ' ∧ Sim N ι' E' σ' a' w' ∧ Ext ι σ.h E w ι' σ'.h E' w'

/-- An operation that only reads. -/
theorem exec_quiet (s : Sim N ι E σ a w) {Γ : Ctx} (hN : Γ.N = N) {o : Oper} {K : St → Prop} (hq : isQuiet o.op = true) (h : execQ P Γ o σ K) :
    ∃ v σ', (∀ w2, (isLd o.op = true → Same w w2) → (execOp a.eval o).run P w2 = .ok (.value v) w2) ∧ K σ' ∧ Sim N ι E σ' (a.put o.dst v) w ∧ σ'.h = σ.h := by
  obtain ⟨n, hh, ss⟩ := σ
  unfold execQ at h
  simp only [hq, putQ_eq] at h
  obtain ⟨v, x, h1, h2, h3⟩ := qop_sound s.rep s.ev h
  refine ⟨v, _, h1, h3, hN ▸ s.put o.dst h2, ?_⟩
  unfold St.put
  split
  · rfl
  · split <;> rfl

/-- A load: it hangs on one block. -/
theorem exec_load (s : Sim N ι E σ a w) {Γ : Ctx} (hN : Γ.N = N) {o : Oper} {t : TypeId} {X : Operand} {K : St → Prop} (ho : o.op = .load t X) (h : execQ P Γ o σ K) :
    ∃ v σ' b, b < w.heap.size ∧ RdAt E ι (σ.ev X) b ∧ (∀ w2, w2.heap[b]? = w.heap[b]? → (execOp a.eval o).run P w2 = .ok (.value v) w2) ∧ K σ' ∧ Sim N ι E σ' (a.put o.dst v) w ∧ σ'.h = σ.h := by
  obtain ⟨n, hh, ss⟩ := σ
  unfold execQ at h
  have hq : isQuiet o.op = true := by rw [ho]; rfl
  simp only [hq, putQ_eq, ho, qop] at h
  obtain ⟨b, hb, ⟨v, x, h1, h2, h3⟩, hr⟩ := ldQ_at s.rep (s.ev X) h
  refine ⟨v, _, b, hb, hr, fun w2 hw => ?_, h3, hN ▸ s.put o.dst h2, ?_⟩
  · simp only [execOp, ho]
    rw [Sem.run_bind, h1 w2 hw]
    rfl
  · unfold St.put
    split
    · rfl
    · split <;> rfl

/-- Any other operation. -/
theorem exec_effect (s : Sim N ι E σ a w) {Γ : Ctx} (hN : Γ.N = N) {o : Oper} {K : St → Prop} (hq : isQuiet o.op = false) (h : execQ P Γ o σ K) {next : Act → World → Prop} {Q : Exit → Act → World → Prop}
    (hn : ∀ a' w', Left P N ι E σ w K a' w' → (isMild Γ.own o.op = true → Same w w') → (∀ T, touchQ σ o = some T → ∀ b, b < w.heap.size → (∀ id, id ∈ T → ∀ base, ι id ≠ some (some (b, base))) → w'.heap[b]? = w.heap[b]?) → next a' w') : o.wp P a w next Q := by
  obtain ⟨n, hh, ss⟩ := σ
  unfold execQ at h
  simp only [hq, putQ_eq, frcN_eq, frcH_eq] at h
  have hput : ∀ (n' : Nat) (h' : Hp) (x : AV), (St.put ⟨n', h', ss⟩ Γ.N o.dst x).h = h' := by
    intro n' h' x
    unfold St.put
    split
    · rfl
    · split <;> rfl
  have fin : (isMild Γ.own o.op = true → Adds P (execOp a.eval o)) → EGives P E w ι n hh (execOp a.eval o) (fun x n h => K (St.put ⟨n, h, ss⟩ Γ.N o.dst x)) → (isMild Γ.own o.op = false → touchQ ⟨n, hh, ss⟩ o = none) → o.wp P a w next Q := by
    rintro had ⟨x, v, w', ι', E', n', h', hrun, hk, hr, hrep, hx⟩ htn
    have hmild : isMild Γ.own o.op = true → Same w w' := fun hm => by
      rcases hrun with hrun | ⟨hrun, _⟩
      · exact had hm _ _ _ hrun
      · exact had hm _ _ _ hrun
    have hleft : next (a.put o.dst v) w' := hn _ _ ⟨_, ι', E', hk, hN ▸ (s.keep hrep hx).put o.dst hr, by rw [hput]; exact hx⟩ hmild (fun T hT b hb _ => by
      cases hm : isMild Γ.own o.op with
      | true => exact hmild hm b hb
      | false => rw [htn hm] at hT; cases hT)
    unfold Oper.wp
    rcases hrun with hrun | ⟨hrun, rfl⟩
    · rw [hrun, Oper.upon_value]; exact hleft
    · rw [hrun, Oper.upon_skip]; exact hleft
  have finC : ∀ {c : Call} {f : Operand}, o.op = .call c → c.callee = .value f → CGives P E w ι hh Γ.own (St.ev ⟨n, hh, ss⟩ f) (touchC hh (St.ev ⟨n, hh, ss⟩ f) (c.args.toList.map (St.ev ⟨n, hh, ss⟩))) (execOp a.eval o) (fun x n h => K (St.put ⟨n, h, ss⟩ Γ.N o.dst x)) → o.wp P a w next Q := by
    rintro c f ho hc ⟨fn, first, cap, vals, hfn, hrun, hcall⟩
    unfold Oper.wp
    rw [hrun, Oper.upon_enter]
    refine hcall.mono ?_
    rintro e w' ⟨⟨v, x, n', h', ι', E', rfl, hk, hr, hrep, hx⟩, hmild, htouch⟩
    refine hn _ _ ⟨_, ι', E', hk, hN ▸ (s.keep hrep hx).put o.dst hr, by rw [hput]; exact hx⟩ (fun hm => hmild ?_) (fun T hT b hb hnot => htouch b hb ?_)
    case refine_2 =>
      unfold touchQ at hT
      split at hT
      · cases hT
      · simp only [ho, hc, Option.some.injEq] at hT
        subst hT
        exact hnot
    rw [ho] at hm
    simp only [isMild, hc] at hm
    cases f <;> simp only [St.ev] at hm hfn <;> first | (cases hm; done) | skip
    cases hfn
    simpa using hm
  split at h
  · rename_i c hc
    split at h
    · rename_i f hcal
      exact finC hc hcal (callQ_sound s.rep s.ev hc hcal h)
    · rename_i hnc
      refine fin (fun hm => ?_) (eop_sound s.rep s.ev (by rw [hc]; exact h)) (fun _ => ?_)
      case refine_2 =>
        unfold touchQ
        split
        · rfl
        · rw [hc]
          simp only
      rw [hc] at hm
      simp only [isMild] at hm
      split at hm
      · rename_i hcc; exact absurd hcc (hnc _)
      · cases hm
  · rename_i hnc
    refine fin (fun hm => ?_) (eop_sound s.rep s.ev h) (fun hm => ?_)
    case refine_2 =>
      unfold touchQ
      split
      · rfl
      · unfold isMild at hm
        split
        · rename_i he; rw [he] at hm; cases hm
        · rename_i he; rw [he] at hm; cases hm
        · rename_i he; rw [he] at hm; cases hm
        · rename_i he; exact absurd he (hnc _)
        · rfl
    have lift : ∀ {x : Sem Value}, Adds P x → Adds P (do pure (.value (← x)) : Sem Next) := fun hx => Adds.bind hx fun _ => .pure _
    unfold isMild at hm
    split at hm
    · rename_i he; simp only [execOp, he]; exact lift (alloc_adds _)
    · rename_i he; simp only [execOp, he]; exact lift (box_adds _ _)
    · rename_i he; simp only [execOp, he]; exact lift (buildSlice_adds _ _ _)
    · rename_i he; exact absurd he (hnc _)
    · cases hm

theorem yielded_of {ops : Array Oper} {j : Nat} {oj : Oper} {t : Tmp} {b : Bool} (ho : ops[j]? = some oj) (hd : oj.dst = some t) (hv : a.tmps[t]? = some (.bool b)) : yielded ops a.tmps j = some b := by
  unfold yielded
  simp only [ho, Option.bind_some, hd, hv]

/-- A step: the operation is carried out, or (its guard says no) passed by. -/
theorem step_cases (s : Sim N ι E σ a w) {Γ : Ctx} (hN : Γ.N = N) {ops : Array Oper} {o : Oper} {K : St → Prop} (h : opStep P Γ ops.toList o σ K) :
    (Region.wanted o (yielded ops a.tmps) = true ∧ ∃ σ1, Sim N ι E σ1 a w ∧ σ1.h = σ.h ∧ execQ P Γ o σ1 K ∧ (o.guard = none → σ1 = σ)) ∨
    (Region.wanted o (yielded ops a.tmps) = false ∧ ∃ σ1, K σ1 ∧ Sim N ι E σ1 (a.put o.dst undef) w ∧ σ1.h = σ.h) := by
  unfold opStep at h
  have hph : ∀ (n' : Nat) (h' : Hp) (ss : List (Nat × AV)) (x : AV), (St.put ⟨n', h', ss⟩ Γ.N o.dst x).h = h' := by
    intro n' h' ss x
    unfold St.put
    split
    · rfl
    · split <;> rfl
  cases hg : o.guard with
  | none =>
    simp only [hg] at h
    exact .inl ⟨by simp [Region.wanted, hg], σ, s, rfl, h, fun _ => rfl⟩
  | some jw =>
    obtain ⟨j, want⟩ := jw
    simp only [hg] at h
    have e : ops.toList[j]? = ops[j]? := by simp
    rw [e] at h
    cases ho : ops[j]? with
    | none => simp [ho] at h
    | some oj =>
      simp only [ho] at h
      cases hd : oj.dst with
      | none => simp [hd] at h
      | some t =>
        simp only [hd] at h
        obtain ⟨n, hh, ss⟩ := σ
        simp only [putQ_eq] at h
        cases hgt : get ss t with
        | none => simp [hgt] at h
        | some x =>
          obtain ⟨v, hv1, hv2⟩ := s.slots t x hgt
          have skip : ∀ {ss'}, Sim N ι E ⟨n, hh, ss'⟩ a w → Sim N ι E (St.put ⟨n, hh, ss'⟩ Γ.N o.dst (.tup [])) (a.put o.dst undef) w := fun s' => hN ▸ s'.put o.dst (.tup [] #[] rfl (fun i x y hx _ => by simp at hx))
          have wn : ∀ {b}, v = .bool b → Region.wanted o (yielded ops a.tmps) = (b == want) := by
            intro b hb
            unfold Region.wanted
            simp only [hg, yielded_of ho hd (hb ▸ hv1)]
            cases b <;> cases want <;> rfl
          simp only [hgt] at h
          split at h
          · rename_i hx; cases hx
            have hvb := rel_v hv2
            split at h
            · exact .inl ⟨by rw [wn hvb]; rfl, _, s, rfl, h, fun hh => by cases hh⟩
            · exact .inr ⟨by rw [wn hvb]; rfl, _, h, skip s, hph _ _ _ _⟩
          · rename_i hx; cases hx
            have hvb := rel_v hv2
            split at h
            · exact .inl ⟨by rw [wn hvb]; rfl, _, s, rfl, h, fun hh => by cases hh⟩
            · exact .inr ⟨by rw [wn hvb]; rfl, _, h, skip s, hph _ _ _ _⟩
          · rename_i b hx; cases hx
            have hvb : v = .bool b := rel_toB hv2 rfl
            have s' : Sim N ι E ⟨n, hh, (t, .v (.bool b)) :: ss⟩ a w := s.more ⟨v, hv1, hvb ▸ .v _⟩
            split at h
            · obtain ⟨h1, h2⟩ := h.elim
              cases b with
              | true => exact .inl ⟨by rw [wn hvb]; rfl, _, s', rfl, h1 rfl, fun hh => by cases hh⟩
              | false => exact .inr ⟨by rw [wn hvb]; rfl, _, h2 rfl, skip s', hph _ _ _ _⟩
            · obtain ⟨h1, h2⟩ := h.elim
              cases b with
              | true => exact .inr ⟨by rw [wn hvb]; rfl, _, h1 rfl, skip s', hph _ _ _ _⟩
              | false => exact .inl ⟨by rw [wn hvb]; rfl, _, s', rfl, h2 rfl, fun hh => by cases hh⟩
          · rename_i hx; cases hx
            have hvu : v = .tuple #[] := by
              cases hv2 with
              | tup _ c hs _ =>
                have : c = #[] := Array.eq_empty_of_size_eq_zero (by simpa using hs.symm)
                rw [this]
            have hy : yielded ops a.tmps j = none := by
              unfold yielded
              simp only [ho, Option.bind_some, hd, hv1, hvu]
            exact .inr ⟨by unfold Region.wanted; simp only [hg, hy]; rfl, _, h, skip s, hph _ _ _ _⟩
          · exact h.elim

/-- In the text's order. -/
theorem opsQ_sound {Γ : Ctx} (hN : Γ.N = N) {ops : Array Oper} {K : St → Prop} {Q : Exit → Act → World → Prop} : ∀ (l : List Nat) (rest : List Oper) {σ : St} {a : Act} {w : World} {ι : Inj} {E : Nat → Prop}, Sim N ι E σ a w →
    (∀ (q : Nat), (l.map fun i => ops[i]?)[q]? = (rest.map some)[q]?) → opsQ P Γ ops.toList rest σ K → (∀ a' w', Left P N ι E σ w K a' w' → Q .normal a' w') → wpOps P ops Q l a w
  | [], rest, σ, a, w, ι, E, s, hm, h, hQ => by
    have : rest = [] := by
      cases rest with
      | nil => rfl
      | cons o r => have := hm 0; simp at this
    subst this
    exact hQ a w ⟨σ, ι, E, h, s, Ext.refl⟩
  | i :: l, [], σ, a, w, ι, E, s, hm, h, hQ => by have := hm 0; simp at this
  | i :: l, o :: rest, σ, a, w, ι, E, s, hm, h, hQ => by
    have ho : ops[i]? = some o := by have := hm 0; simpa using this
    have hm' : ∀ (q : Nat), (l.map fun i => ops[i]?)[q]? = (rest.map some)[q]? := fun q => by have := hm (q + 1); simpa using this
    simp only [wpOps, ho]
    simp only [opsQ] at h
    rcases step_cases s hN h with ⟨hw, σ1, s1, e1, h1, hg0⟩ | ⟨hw, σ1, h1, s1, e1⟩
    · rw [if_pos hw]
      cases hq : isQuiet o.op with
      | true =>
        obtain ⟨v, σ', g1, g2, g3, g4⟩ := exec_quiet s1 hN hq h1
        refine .inl ?_
        unfold Oper.wp
        rw [g1 w (fun _ => .refl), Oper.upon_value]
        exact opsQ_sound hN l rest g3 hm' g2 (fun a' w' ⟨σ2, ι2, E2, k, s2, x2⟩ => hQ a' w' ⟨σ2, ι2, E2, k, s2, by rw [g4, e1] at x2; exact x2⟩)
      | false =>
        refine .inl (exec_effect s1 hN hq h1 ?_)
        rintro a' w' ⟨σ', ι', E', k, s', x'⟩ _ _
        exact opsQ_sound hN l rest s' hm' k (fun a2 w2 ⟨σ2, ι2, E2, k2, s2, x2⟩ => hQ a2 w2 ⟨σ2, ι2, E2, k2, s2, by rw [e1] at x'; exact x'.trans x2⟩)
    · rw [if_neg (by rw [hw]; simp)]
      exact opsQ_sound hN l rest s1 hm' h1 (fun a' w' ⟨σ2, ι2, E2, k, s2, x2⟩ => hQ a' w' ⟨σ2, ι2, E2, k, s2, by rw [e1] at x2; exact x2⟩)

/-! ### Whatever order is picked -/
/-- the operation's value, now, and as long as the blocks of now are as they are -/
def YN (P : Program) (ops : Array Oper) (o : Oper) (v : Value) (a : Act) (w : World) : Prop :=
  (Region.wanted o (yielded ops a.tmps) = true ∧ ∀ w2, (isLd o.op = true → Same w w2) → (execOp a.eval o).run P w2 = .ok (.value v) w2) ∨ (Region.wanted o (yielded ops a.tmps) = false ∧ v = undef)
theorem YN.later {ops : Array Oper} {o : Oper} {v : Value} {w' : World} (h : YN P ops o v a w) (hs : Same w w') : YN P ops o v a w' :=
  h.imp (fun ⟨h1, h2⟩ => ⟨h1, fun w2 h3 => h2 w2 fun hl => hs.trans (h3 hl)⟩) id

/-- W i b: the load i, which was taken first, read block b: what does not wait for it leaves b alone -/
def wpAnyM (P : Program) (own : FuncId → Bool) (ops : Array Oper) (Q : Exit → Act → World → Prop) (W : Nat → Nat → Prop) : Nat → Array Bool → Act → World → Prop
  | 0, L, a, w => Region.ready .any ops L = [] ∧ Q .normal a w
  | f + 1, L, a, w => (Region.ready .any ops L = [] → Q .normal a w) ∧ ∀ i ∈ Region.ready .any ops L, ∀ o, ops[i]? = some o →
    (isQuiet o.op = true → ∃ v, YN P ops o v a w ∧ wpAnyM P own ops Q W f (L.setIfInBounds i true) (a.put o.dst v) w) ∧
    (isQuiet o.op = false → wpOp P ops Q i (fun a' w' => (isMild own o.op = true → Same w w') ∧ (∀ k b, W k b → waitsF ops ops.size i k = false → w'.heap[b]? = w.heap[b]?) ∧ wpAnyM P own ops Q W f (L.setIfInBounds i true) a' w') a w)

theorem wpAny_of_M {own : FuncId → Bool} {ops : Array Oper} {Q : Exit → Act → World → Prop} {W : Nat → Nat → Prop} : ∀ (f : Nat) (L : Array Bool) (a : Act) (w : World), wpAnyM P own ops Q W f L a w → wpAny P .any ops Q f L a w
  | 0, _, _, _, h => h
  | f + 1, L, a, w, h => ⟨h.1, fun i hi => by
    obtain ⟨_, o, ho, _⟩ := mem_ready.1 hi
    obtain ⟨h1, h2⟩ := h.2 i hi o ho
    cases hq : isQuiet o.op with
    | true =>
      obtain ⟨v, hy, hm⟩ := h1 hq
      unfold wpOp
      simp only [ho]
      rcases hy with ⟨hw, hr⟩ | ⟨hw, rfl⟩
      · simp only [hw, if_true, Oper.wp, hr w (fun _ => .refl), Oper.upon]; exact .inl (wpAny_of_M f _ _ _ hm)
      · simp only [hw, Bool.false_eq_true, if_false]; exact wpAny_of_M f _ _ _ hm
    | false => exact wpOp_mono (fun a' w' h' => wpAny_of_M f _ a' w' h'.2.2) (h2 hq)⟩

theorem wpAnyM_weak {own : FuncId → Bool} {ops : Array Oper} {Q : Exit → Act → World → Prop} {W W' : Nat → Nat → Prop} (hW : ∀ i b, W' i b → W i b) : ∀ (f : Nat) (L : Array Bool) (a : Act) (w : World), wpAnyM P own ops Q W f L a w → wpAnyM P own ops Q W' f L a w
  | 0, _, _, _, h => h
  | f + 1, L, a, w, h => ⟨h.1, fun i hi o ho => by
    obtain ⟨h1, h2⟩ := h.2 i hi o ho
    refine ⟨fun hq => ?_, fun hq => ?_⟩
    · obtain ⟨v, hy, hm⟩ := h1 hq
      exact ⟨v, hy, wpAnyM_weak hW f _ _ _ hm⟩
    · exact wpOp_mono (fun a' w' h' => ⟨h'.1, fun k b hk => h'.2.1 k b (hW k b hk), wpAnyM_weak hW f _ a' w' h'.2.2⟩) (h2 hq)⟩

def Closed (ops : Array Oper) (L : Array Bool) : Prop := ∀ (j : Nat) oj, ops[j]? = some oj → L.getD j false = true → ∀ e ∈ oj.after, Region.binds .any e = true → L.getD e.on false = true

theorem waits_spec {ops : Array Oper} {L : Array Bool} (hc : Closed ops L) : ∀ (f : Nat) (j i : Nat) (oj : Oper), ops[j]? = some oj → (∀ e ∈ oj.after, Region.binds .any e = true → L.getD e.on false = true) → waitsF ops f j i = true → L.getD i false = true
  | 0, _, _, _, _, _, h => by simp [waitsF] at h
  | f + 1, j, i, oj, hj, hall, h => by
    simp only [waitsF, hj] at h
    obtain ⟨e, he, hb⟩ := List.any_eq_true.1 h
    have he : e ∈ oj.after := by simpa using he
    simp only [Bool.and_eq_true, Bool.or_eq_true] at hb
    obtain ⟨hb1, hb2⟩ := hb
    have hl := hall e (by simpa using he) hb1
    rcases hb2 with hb2 | hb2
    · exact Nat.eq_of_beq_eq_true hb2 ▸ hl
    · cases ho : ops[e.on]? with
      | none =>
        cases f with
        | zero => simp [waitsF] at hb2
        | succ f => simp [waitsF, ho] at hb2
      | some o' => exact waits_spec hc f e.on i o' ho (fun e' he' hb' => hc _ _ ho hl e' he' hb') hb2

theorem Closed.set {ops : Array Oper} {L : Array Bool} {i : Nat} (hc : Closed ops L) (hi : i ∈ Region.ready .any ops L) : Closed ops (L.setIfInBounds i true) := by
  obtain ⟨_, oi, hoi, hall⟩ := mem_ready.1 hi
  intro j oj hj hl e he hb
  by_cases hij : i = j
  · subst hij
    rw [hoi] at hj; cases hj
    exact getD_set_true (hall e he hb)
  · rw [getD_set_ne false hij] at hl
    exact getD_set_true (hc j oj hj hl e he hb)

theorem getD_true_of_false {L : Array Bool} {i : Nat} (h : L.getD i false = true) : L.getD i true = true := by
  rcases Nat.lt_or_ge i L.size with h' | h'
  · simp [h'] at h ⊢; exact h
  · simp [Array.getElem?_eq_none h'] at h

theorem yields_still {ops : Array Oper} {o : Oper} {v : Value} (hs : isStill o.op = true) (hy : YN P ops o v a w) : Yields P ops o v a := by
  refine hy.imp (fun ⟨hw, hv⟩ => ⟨hw, fun w' => hv w' fun hl => ?_⟩) id
  unfold isStill at hs
  rw [hl] at hs; cases hs

theorem wpAnyM_first {own : FuncId → Bool} {ops : Array Oper} {Q : Exit → Act → World → Prop} {W : Nat → Nat → Prop} {F i : Nat} {oi : Oper} {v : Value} (hi : ops[i]? = some oi) (hqi : isQuiet oi.op = true) (hsel : ∀ (j : Nat) (o : Oper) cs b, ops[j]? = some o → o.op ≠ .select cs b)
    (hQ : ∀ c a w, ¬ Q (.panic c) a w) :
    ∀ (f : Nat) (L : Array Bool) (a : Act) (w : World), Closed ops L →
      (∀ j oj, ops[j]? = some oj → j ≠ i → L.getD j true = false → (∀ e ∈ oj.after, Region.binds .any e = true → e.on ≠ i) → oi.apart ops oj = true) →
      (∀ j oj, ops[j]? = some oj → L.getD j true = false → isQuiet oj.op = false → isStill oi.op = true ∨ isMild own oj.op = true ∨ waitsF ops F j i = true) →
      i ∈ Region.ready .any ops L → YN P ops oi v a w → wpAnyM P own ops Q W f (L.setIfInBounds i true) (a.put oi.dst v) w → wpAnyM P own ops Q W (f + 1) L a w := by
  intro f
  induction f with
  | zero =>
    intro L a w hc _ _ hr hy H
    refine ⟨fun h => (by rw [h] at hr; cases hr), fun j hj oj hoj => ?_⟩
    by_cases hji : j = i
    · subst hji
      rw [hi] at hoj; cases hoj
      exact ⟨fun _ => ⟨v, hy, H⟩, fun h => by rw [hqi] at h; cases h⟩
    · have := ready_mono hj hji
      rw [H.1] at this
      cases this
  | succ f ih =>
    intro L a w hc hfree heff hr hy H
    refine ⟨fun h => (by rw [h] at hr; cases hr), fun j hj oj hoj => ?_⟩
    by_cases hji : j = i
    · subst hji
      rw [hi] at hoj; cases hoj
      exact ⟨fun _ => ⟨v, hy, H⟩, fun h => by rw [hqi] at h; cases h⟩
    · obtain ⟨hjun, oj', hoj', hall⟩ := mem_ready.1 hj
      rw [hoj] at hoj'; cases hoj'
      have hiun := (mem_ready.1 hr).1
      refine ⟨fun hqj => ?_, fun hqj => ?_⟩
      · have hnot : ∀ e ∈ oj.after, Region.binds .any e = true → e.on ≠ i := fun e he hb heq => by
          have h1 := hall e he hb
          rw [heq] at h1
          rw [getD_true_of_false h1] at hiun; cases hiun
        obtain ⟨h1, h2, h3⟩ := Oper.apart_spec (hfree j oj hoj hji hjun hnot)
        obtain ⟨u, hyu, hm⟩ := (H.2 j (ready_mono hj hji) oj hoj).1 hqj
        have hyj : YN P ops oj u a w := by
          unfold YN at hyu ⊢
          rw [wanted_put oj a oi.dst v h1, execOp_put oj (fun cs b => hsel j oj cs b hoj) a oi.dst v h1] at hyu
          exact hyu
        have hyi : YN P ops oi v (a.put oj.dst u) w := by
          unfold YN at hy ⊢
          rw [wanted_put oi a oj.dst u h3, execOp_put oi (fun cs b => hsel i oi cs b hi) a oj.dst u h3]
          exact hy
        refine ⟨u, hyj, ih _ _ _ (hc.set hj) (fun k ok hk hki hun hno => ?_) (fun k ok hk hun hqk => ?_) (ready_mono hr (Ne.symm hji)) hyi ?_⟩
        · refine hfree k ok hk hki ?_ hno
          by_cases hjk : j = k
          · subst hjk; exact hjun
          · rw [getD_set_ne true hjk] at hun; exact hun
        · refine heff k ok hk ?_ hqk
          by_cases hjk : j = k
          · subst hjk; exact hjun
          · rw [getD_set_ne true hjk] at hun; exact hun
        · rw [Array.setIfInBounds_comm _ _ hji, ← Act.put_comm a v u h2]
          exact hm
      · rcases heff j oj hoj hjun hqj with hst | hml | hwt
        · have hnot : ∀ e ∈ oj.after, Region.binds .any e = true → e.on ≠ i := fun e he hb heq => by
            have h1 := hall e he hb
            rw [heq] at h1
            rw [getD_true_of_false h1] at hiun; cases hiun
          have h1 := (H.2 j (ready_mono hj hji) oj hoj).2 hqj
          have h2 := wpOp_put hoj (hfree j oj hoj hji hjun hnot) (fun cs b => hsel i oi cs b hi) (fun cs b => hsel j oj cs b hoj) (fun c a w h => absurd h (hQ c _ w)) (yields_still hst hy) h1
          refine wpOp_mono (fun a' w' h3 => ⟨h3.2.1, h3.2.2.1, ih _ a' w' (hc.set hj) (fun k ok hk hki hun hno => ?_) (fun k ok hk hun hqk => .inl hst) (ready_mono hr (Ne.symm hji)) (h3.1.imp (fun ⟨q1, q2⟩ => ⟨q1, fun w2 _ => q2 w2⟩) id) ?_⟩) h2
          · refine hfree k ok hk hki ?_ hno
            by_cases hjk : j = k
            · subst hjk; exact hjun
            · rw [getD_set_ne true hjk] at hun; exact hun
          · rw [Array.setIfInBounds_comm _ _ hji]
            exact h3.2.2.2
        · have hnot : ∀ e ∈ oj.after, Region.binds .any e = true → e.on ≠ i := fun e he hb heq => by
            have h1 := hall e he hb
            rw [heq] at h1
            rw [getD_true_of_false h1] at hiun; cases hiun
          have h1 := (H.2 j (ready_mono hj hji) oj hoj).2 hqj
          have hyS : YieldsIf P ops (fun w2 => isLd oi.op = true → Same w w2) oi v a := hy
          have h2 := wpOp_putIf hoj (hfree j oj hoj hji hjun hnot) (fun cs b => hsel i oi cs b hi) (fun cs b => hsel j oj cs b hoj) (fun c a w h => absurd h (hQ c _ w)) hyS h1
          refine wpOp_mono (fun a' w' h3 => ⟨h3.2.1, h3.2.2.1, ih _ a' w' (hc.set hj) (fun k ok hk hki hun hno => ?_) (fun k ok hk hun hqk => ?_) (ready_mono hr (Ne.symm hji)) ((show YN P ops oi v a' w from h3.1).later (h3.2.1 hml)) ?_⟩) h2
          · refine hfree k ok hk hki ?_ hno
            by_cases hjk : j = k
            · subst hjk; exact hjun
            · rw [getD_set_ne true hjk] at hun; exact hun
          · refine heff k ok hk ?_ hqk
            by_cases hjk : j = k
            · subst hjk; exact hjun
            · rw [getD_set_ne true hjk] at hun; exact hun
          · rw [Array.setIfInBounds_comm _ _ hji]
            exact h3.2.2.2
        · have := waits_spec hc F j i oj hoj hall hwt
          rw [getD_true_of_false this] at hiun; cases hiun

/-- the operation's value, as long as the blocks R are as they are -/
def YR (P : Program) (ops : Array Oper) (R : Nat → Prop) (o : Oper) (v : Value) (a : Act) (w : World) : Prop :=
  (Region.wanted o (yielded ops a.tmps) = true ∧ ∀ w2 : World, (∀ b, R b → w2.heap[b]? = w.heap[b]?) → (execOp a.eval o).run P w2 = .ok (.value v) w2) ∨ (Region.wanted o (yielded ops a.tmps) = false ∧ v = undef)
theorem YR.yn {ops : Array Oper} {R : Nat → Prop} {o : Oper} {v : Value} (h : YR P ops R o v a w) (hl : isLd o.op = true) (hR : ∀ b, R b → b < w.heap.size) : YN P ops o v a w :=
  h.imp (fun ⟨h1, h2⟩ => ⟨h1, fun w2 hs => h2 w2 fun b hb => hs hl b (hR b hb)⟩) id
theorem YR.later {ops : Array Oper} {R : Nat → Prop} {o : Oper} {v : Value} {w' : World} (h : YR P ops R o v a w) (hs : ∀ b, R b → w'.heap[b]? = w.heap[b]?) : YR P ops R o v a w' :=
  h.imp (fun ⟨h1, h2⟩ => ⟨h1, fun w2 h3 => h2 w2 fun b hb => (h3 b hb).trans (hs b hb)⟩) id

theorem wpAnyM_watch {own : FuncId → Bool} {ops : Array Oper} {Q : Exit → Act → World → Prop} {W : Nat → Nat → Prop} {R : Nat → Prop} {i : Nat} {oi : Oper} {v : Value} (hi : ops[i]? = some oi) (hqi : isQuiet oi.op = true) (hld : isLd oi.op = true) (hsel : ∀ (j : Nat) (o : Oper) cs b, ops[j]? = some o → o.op ≠ .select cs b)
    (hQ : ∀ c a w, ¬ Q (.panic c) a w) :
    ∀ (f : Nat) (L : Array Bool) (a : Act) (w : World), Closed ops L →
      (∀ j oj, ops[j]? = some oj → j ≠ i → L.getD j true = false → (∀ e ∈ oj.after, Region.binds .any e = true → e.on ≠ i) → oi.apart ops oj = true) →
      i ∈ Region.ready .any ops L → (∀ b, R b → b < w.heap.size) → YR P ops R oi v a w → wpAnyM P own ops Q (fun k b => W k b ∨ (k = i ∧ R b)) f (L.setIfInBounds i true) (a.put oi.dst v) w → wpAnyM P own ops Q W (f + 1) L a w := by
  intro f
  induction f with
  | zero =>
    intro L a w hc _ hr hR hy H
    refine ⟨fun h => (by rw [h] at hr; cases hr), fun j hj oj hoj => ?_⟩
    by_cases hji : j = i
    · subst hji
      rw [hi] at hoj; cases hoj
      exact ⟨fun _ => ⟨v, hy.yn hld hR, H⟩, fun h => by rw [hqi] at h; cases h⟩
    · have := ready_mono hj hji
      rw [H.1] at this
      cases this
  | succ f ih =>
    intro L a w hc hfree hr hR hy H
    refine ⟨fun h => (by rw [h] at hr; cases hr), fun j hj oj hoj => ?_⟩
    by_cases hji : j = i
    · subst hji
      rw [hi] at hoj; cases hoj
      exact ⟨fun _ => ⟨v, hy.yn hld hR, wpAnyM_weak (fun _ _ h => .inl h) _ _ _ _ H⟩, fun h => by rw [hqi] at h; cases h⟩
    · obtain ⟨hjun, oj', hoj', hall⟩ := mem_ready.1 hj
      rw [hoj] at hoj'; cases hoj'
      have hiun := (mem_ready.1 hr).1
      have hnot : ∀ e ∈ oj.after, Region.binds .any e = true → e.on ≠ i := fun e he hb heq => by
        have h1 := hall e he hb
        rw [heq] at h1
        rw [getD_true_of_false h1] at hiun; cases hiun
      have hnw : waitsF ops ops.size j i = false := by
        cases hw : waitsF ops ops.size j i with
        | false => rfl
        | true =>
          have := waits_spec hc ops.size j i oj hoj hall hw
          rw [getD_true_of_false this] at hiun; cases hiun
      refine ⟨fun hqj => ?_, fun hqj => ?_⟩
      · obtain ⟨h1, h2, h3⟩ := Oper.apart_spec (hfree j oj hoj hji hjun hnot)
        obtain ⟨u, hyu, hm⟩ := (H.2 j (ready_mono hj hji) oj hoj).1 hqj
        have hyj : YN P ops oj u a w := by
          unfold YN at hyu ⊢
          rw [wanted_put oj a oi.dst v h1, execOp_put oj (fun cs b => hsel j oj cs b hoj) a oi.dst v h1] at hyu
          exact hyu
        have hyi : YR P ops R oi v (a.put oj.dst u) w := by
          unfold YR at hy ⊢
          rw [wanted_put oi a oj.dst u h3, execOp_put oi (fun cs b => hsel i oi cs b hi) a oj.dst u h3]
          exact hy
        refine ⟨u, hyj, ih _ _ _ (hc.set hj) (fun k ok hk hki hun hno => ?_) (ready_mono hr (Ne.symm hji)) hR hyi ?_⟩
        · refine hfree k ok hk hki ?_ hno
          by_cases hjk : j = k
          · subst hjk; exact hjun
          · rw [getD_set_ne true hjk] at hun; exact hun
        · rw [Array.setIfInBounds_comm _ _ hji, ← Act.put_comm a v u h2]
          exact hm
      · have h1 := (H.2 j (ready_mono hj hji) oj hoj).2 hqj
        have hyS : YieldsIf P ops (fun w2 => ∀ b, R b → w2.heap[b]? = w.heap[b]?) oi v a := hy
        have h2 := wpOp_putIf hoj (hfree j oj hoj hji hjun hnot) (fun cs b => hsel i oi cs b hi) (fun cs b => hsel j oj cs b hoj) (fun c a w h => absurd h (hQ c _ w)) hyS h1
        refine wpOp_mono (fun a' w' h3 => ?_) h2
        obtain ⟨q1, q2, q3, q4⟩ := h3
        have hsame : ∀ b, R b → w'.heap[b]? = w.heap[b]? := fun b hb => q3 i b (.inr ⟨rfl, hb⟩) hnw
        refine ⟨q2, fun k b hk => q3 k b (.inl hk), ih _ a' w' (hc.set hj) (fun k ok hk hki hun hno => ?_) (ready_mono hr (Ne.symm hji)) (fun b hb => ?_) ((show YR P ops R oi v a' w from q1).later hsame) ?_⟩
        · refine hfree k ok hk hki ?_ hno
          by_cases hjk : j = k
          · subst hjk; exact hjun
          · rw [getD_set_ne true hjk] at hun; exact hun
        · have e := hsame b hb
          rw [Array.getElem?_eq_getElem (hR b hb)] at e
          exact (Array.getElem?_eq_some_iff.1 e).1
        · rw [Array.setIfInBounds_comm _ _ hji]
          exact q4

/-- what is watched, in blocks -/
def WInv (Z : List (Nat × Nat)) (W : Nat → Nat → Prop) (ι : Inj) (E : Nat → Prop) (w : World) : Prop := ∀ i b, W i b → b < w.heap.size ∧ (¬ E b ∨ ∃ id base, (i, id) ∈ Z ∧ ι id = some (some (b, base)))
theorem WInv.ext {Z : List (Nat × Nat)} {W : Nat → Nat → Prop} {ι' : Inj} {E' : Nat → Prop} {w' : World} {n : Nat} {h h' : Hp} (hW : WInv Z W ι E w) (r : Rep ι E w n h) (x : Ext ι h E w ι' h' E' w') : WInv Z W ι' E' w' := fun i b hb => by
  obtain ⟨h1, h2⟩ := hW i b hb
  refine ⟨Nat.lt_of_lt_of_le h1 x.size, h2.imp (fun hE hE' => ?_) (fun ⟨id, base, h3, h4⟩ => ⟨id, base, h3, x.inj _ _ h4⟩)⟩
  exact hE ((x.old b h1 (fun ho => hE (r.own_E ho))).2.1 hE')
theorem hasB_spec {h : Hp} {id : Nat} (hb : hasB h id = true) : ∃ o, get h id = some o := by
  unfold hasB at hb
  split at hb
  · rename_i o ho; exact ⟨o, ho⟩
  · cases hb
theorem apartB_spec {h : Hp} {id : Nat} : ∀ {T : List Nat}, apartB h id T = true → ∀ x, x ∈ T → x ≠ id ∧ ∃ o, get h x = some o
  | [], _, x, hx => by cases hx
  | y :: r, hb, x, hx => by
    simp only [apartB, Bool.and_eq_true, Bool.not_eq_true'] at hb
    rcases List.mem_cons.1 hx with rfl | hx
    · exact ⟨(fun e => by subst e; have h1 := hb.1; rw [beq_self] at h1; cases h1), hasB_spec hb.2.1⟩
    · exact apartB_spec hb.2.2 x hx
theorem watchB_spec {ops : List Oper} {j : Nat} {o : Oper} : ∀ {Z : List (Nat × Nat)}, watchB ops j σ o Z = true → isQuiet o.op = false → ∀ i id, (i, id) ∈ Z → waitsF ops.toArray ops.toArray.size j i = false → (∃ ob, get σ.h id = some ob) ∧ ∃ T, touchQ σ o = some T ∧ apartB σ.h id T = true
  | [], _, _, i, id, hm, _ => by cases hm
  | (i0, id0) :: r, hb, hq, i, id, hm, hw => by
    simp only [watchB, Bool.and_eq_true, Bool.or_eq_true, hq, Bool.false_eq_true, false_or] at hb
    rcases List.mem_cons.1 hm with hm | hm
    · cases hm
      rcases hb.1 with h1 | ⟨h1, h2⟩
      · rw [hw] at h1; cases h1
      · refine ⟨hasB_spec h1, ?_⟩
        split at h2
        · rename_i T hT; exact ⟨T, hT, h2⟩
        · cases h2
    · exact watchB_spec hb.2 hq i id hm hw

theorem planQ_sound {Γ : Ctx} (hN : Γ.N = N) {ops : Array Oper} (hsel : Region.noSelect ops = true) {K : St → Prop} {Q : Exit → Act → World → Prop} (hQp : ∀ c a w, ¬ Q (.panic c) a w) : ∀ (s : Sched) {L : Array Bool} {σ : St} {a : Act} {w : World} {ι : Inj} {E : Nat → Prop} {Z : List (Nat × Nat)} {W : Nat → Nat → Prop}, Sim N ι E σ a w → Closed ops L → WInv Z W ι E w →
    planQ P Γ ops.toList Z s σ K → (∀ a' w', Left P N ι E σ w K a' w' → Q .normal a' w') →
    (okPlan Γ.own ops none s L = true → wpAnyM P Γ.own ops Q W s.depth L a w) ∧
    ∀ d, (∀ i ∈ s.heads, i ∈ Region.ready .any ops L) → okPlan Γ.own ops (some d) s L = true → ∀ i ∈ s.heads, ∀ o, ops[i]? = some o →
      (isQuiet o.op = true → ∃ v, YN P ops o v a w ∧ wpAnyM P Γ.own ops Q W d (L.setIfInBounds i true) (a.put o.dst v) w) ∧
      (isQuiet o.op = false → wpOp P ops Q i (fun a' w' => (isMild Γ.own o.op = true → Same w w') ∧ (∀ k b, W k b → waitsF ops ops.size i k = false → w'.heap[b]? = w.heap[b]?) ∧ wpAnyM P Γ.own ops Q W d (L.setIfInBounds i true) a' w') a w) := by
  -- one operation of the ready ones, in whatever manner
  have step : ∀ {i : Nat} {o : Oper} {σ : St} {a : Act} {w : World} {ι : Inj} {E : Nat → Prop} {Z : List (Nat × Nat)} {W : Nat → Nat → Prop} {f : Nat} {L' : Array Bool} {K' : St → Prop}, ops[i]? = some o → Sim N ι E σ a w → WInv Z W ι E w → watchB ops.toList i σ o Z = true → opStep P Γ ops.toList o σ K' →
      (∀ a' w' σ' ι' E', K' σ' → Sim N ι' E' σ' a' w' → Ext ι σ.h E w ι' σ'.h E' w' → WInv Z W ι' E' w' → wpAnyM P Γ.own ops Q W f L' a' w') →
      (isQuiet o.op = true → ∃ v, YN P ops o v a w ∧ wpAnyM P Γ.own ops Q W f L' (a.put o.dst v) w) ∧ (isQuiet o.op = false → wpOp P ops Q i (fun a' w' => (isMild Γ.own o.op = true → Same w w') ∧ (∀ k b, W k b → waitsF ops ops.size i k = false → w'.heap[b]? = w.heap[b]?) ∧ wpAnyM P Γ.own ops Q W f L' a' w') a w) := by
    intro i o σ a w ι E Z W f L' K' ho s hW hwb h hnext
    rcases step_cases s hN h with ⟨hw, σ1, s1, e1, h1, hg0⟩ | ⟨hw, σ1, h1, s1, e1⟩
    · refine ⟨fun hq => ?_, fun hq => ?_⟩
      · obtain ⟨v, σ', g1, g2, g3, g4⟩ := exec_quiet s1 hN hq h1
        exact ⟨v, .inl ⟨hw, g1⟩, hnext _ _ σ' ι E g2 g3 (by rw [g4, e1]; exact Ext.refl) hW⟩
      · unfold wpOp
        simp only [ho, hw, if_true]
        refine .inl (exec_effect s1 hN hq h1 ?_)
        rintro a' w' ⟨σ', ι', E', k, s', x'⟩ hm ht
        rw [e1] at x'
        refine ⟨hm, fun k b hk hnw => ?_, hnext _ _ σ' ι' E' k s' x' (hW.ext s.rep x')⟩
        obtain ⟨hb, hE | ⟨id, base, hz, hι⟩⟩ := hW k b hk
        · exact (x'.old b hb (fun hO => hE (s.rep.own_E hO))).1
        · obtain ⟨⟨ob, hob⟩, T, hT, hap⟩ := watchB_spec hwb hq k id hz (by simpa using hnw)
          have hg : o.guard = none := by
            unfold touchQ at hT
            split at hT
            · cases hT
            · assumption
          have hσ := hg0 hg
          subst hσ
          refine ht T hT b hb fun x hx base' hx' => ?_
          obtain ⟨hne, ob', hob'⟩ := apartB_spec hap x hx
          exact hne (s.rep.sep _ _ _ _ _ _ _ hob' hob hx' hι)
    · refine ⟨fun hq => ⟨undef, .inr ⟨hw, rfl⟩, hnext _ _ σ1 ι E h1 s1 (by rw [e1]; exact Ext.refl) hW⟩, fun hq => ?_⟩
      unfold wpOp
      simp only [ho, hw, Bool.false_eq_true, if_false]
      exact ⟨fun _ => .refl, fun _ _ _ _ => trivial, hnext _ _ σ1 ι E h1 s1 (by rw [e1]; exact Ext.refl) hW⟩
  intro s
  induction s with
  | done =>
    intro L σ a w ι E Z W s hc hW h hQ
    refine ⟨fun hok => ?_, fun d hr hok => (by simp [okPlan] at hok)⟩
    simp only [okPlan, List.isEmpty_iff] at hok
    exact ⟨hok, hQ a w ⟨σ, ι, E, h, s, Ext.refl⟩⟩
  | one i first rest ih =>
    intro L σ a w ι E Z W s hc hW h hQ
    refine ⟨fun hok => ?_, fun d hr hok => (by simp [okPlan] at hok)⟩
    have e : ops.toList[i]? = ops[i]? := by simp
    simp only [planQ, e] at h
    cases ho : ops[i]? with
    | none => simp [ho] at h
    | some o =>
      simp only [ho] at h
      cases hwb : watchB ops.toList i σ o Z with
      | false => simp [hwb] at h
      | true =>
      simp only [hwb] at h
      cases first with
      | true =>
        simp only [okPlan, Bool.and_eq_true] at hok
        obtain ⟨h1, h2, h3, h4, h5⟩ := hok
        have hir : i ∈ Region.ready .any ops L := by simpa using h1
        have hq : isQuiet o.op = true := by simpa [ho] using h3
        obtain ⟨v, hy, hm⟩ := (step (f := rest.depth) (L' := L.setIfInBounds i true) ho s hW hwb h (fun a' w' σ' ι' E' k s' x' hW' => (ih s' (hc.set hir) hW' k (fun a2 w2 ⟨σ2, ι2, E2, k2, s2, x2⟩ => hQ a2 w2 ⟨σ2, ι2, E2, k2, s2, x'.trans x2⟩)).1 h5)).1 hq
        refine wpAnyM_first ho hq (Region.noSelect_spec hsel) hQp (F := ops.size) rest.depth L a w hc (Region.free_spec ho h2) (fun j oj hoj hun hqj => ?_) hir hy hm
        rcases Bool.or_eq_true_iff.1 h4 with h4 | h4
        · exact .inl (by simpa [ho] using h4)
        refine .inr ?_
        rw [List.all_eq_true] at h4
        have := h4 j (List.mem_range.2 (Array.getElem?_eq_some_iff.1 hoj).1)
        simp only [hun, hoj, Option.map_some, Option.getD_some, hqj, Bool.false_or, Bool.or_eq_true] at this
        exact this
      | false =>
        simp only [okPlan, Bool.and_eq_true, decide_eq_true_eq] at hok
        obtain ⟨h1, h2⟩ := hok
        have hir : i ∈ Region.ready .any ops L := by rw [h1]; simp
        refine ⟨fun h0 => (by rw [h0] at h1; cases h1), fun j hj oj hoj => ?_⟩
        rw [h1] at hj
        have hji : j = i := by simpa using hj
        subst hji
        rw [ho] at hoj; cases hoj
        exact step ho s hW hwb h (fun a' w' σ' ι' E' k s' x' hW' => (ih s' (hc.set hir) hW' k (fun a2 w2 ⟨σ2, ι2, E2, k2, s2, x2⟩ => hQ a2 w2 ⟨σ2, ι2, E2, k2, s2, x'.trans x2⟩)).1 h2)
  | alt i sa more iha ihm =>
    intro L σ a w ι E Z W s hc hW h hQ
    have e : ops.toList[i]? = ops[i]? := by simp
    simp only [planQ, e] at h
    cases ho : ops[i]? with
    | none => simp [ho] at h
    | some o =>
      simp only [ho] at h
      cases hwb : watchB ops.toList i σ o Z with
      | false => simp [hwb] at h
      | true =>
      simp only [hwb] at h
      -- the first of the chain, or one behind it
      have chain : ∀ d, sa.depth = d → (∀ j ∈ i :: more.heads, j ∈ Region.ready .any ops L) → okPlan Γ.own ops none sa (L.setIfInBounds i true) = true → okPlan Γ.own ops (some d) more L = true → ∀ j ∈ i :: more.heads, ∀ oj, ops[j]? = some oj →
          (isQuiet oj.op = true → ∃ v, YN P ops oj v a w ∧ wpAnyM P Γ.own ops Q W d (L.setIfInBounds j true) (a.put oj.dst v) w) ∧
          (isQuiet oj.op = false → wpOp P ops Q j (fun a' w' => (isMild Γ.own oj.op = true → Same w w') ∧ (∀ k b, W k b → waitsF ops ops.size j k = false → w'.heap[b]? = w.heap[b]?) ∧ wpAnyM P Γ.own ops Q W d (L.setIfInBounds j true) a' w') a w) := by
        intro d hd hr h3 h4 j hj oj hoj
        rcases List.mem_cons.1 hj with rfl | hj
        · rw [ho] at hoj; cases hoj
          subst hd
          exact step ho s hW hwb h.1 (fun a' w' σ' ι' E' k s' x' hW' => (iha s' (hc.set (hr _ (by simp))) hW' k (fun a2 w2 ⟨σ2, ι2, E2, k2, s2, x2⟩ => hQ a2 w2 ⟨σ2, ι2, E2, k2, s2, x'.trans x2⟩)).1 h3)
        · exact (ihm s hc hW h.2 hQ).2 d (fun j hj => hr j (by simp [hj])) h4 j hj oj hoj
      refine ⟨fun hok => ?_, fun d hr hok => ?_⟩
      · simp only [okPlan, Bool.and_eq_true, decide_eq_true_eq] at hok
        obtain ⟨h1, h3, h4⟩ := hok
        refine ⟨fun h0 => (by rw [h0] at h1; cases h1), fun q hq oq hoq => ?_⟩
        exact chain sa.depth rfl (fun j hj => by rw [h1]; exact hj) h3 h4 q (by rw [h1] at hq; exact hq) oq hoq
      · simp only [okPlan, Bool.and_eq_true, beq_iff_eq] at hok
        obtain ⟨h2, h3, h4⟩ := hok
        exact chain d h2 hr h3 h4
  | stop =>
    intro L σ a w ι E Z W s hc hW h hQ
    exact ⟨fun hok => (by simp [okPlan] at hok), fun d hr hok i hi => (by simp [Sched.heads] at hi)⟩
  | wch i rest ih =>
    intro L σ a w ι E Z W s hc hW h hQ
    refine ⟨fun hok => ?_, fun d hr hok => (by simp [okPlan] at hok)⟩
    have e : ops.toList[i]? = ops[i]? := by simp
    simp only [planQ, e] at h
    cases ho : ops[i]? with
    | none => simp [ho] at h
    | some o =>
      simp only [ho] at h
      split at h
      case h_2 => exact h.elim
      rename_i t X hop hgd
      simp only [okPlan, Bool.and_eq_true] at hok
      obtain ⟨h1, h2, h5⟩ := hok
      have hir : i ∈ Region.ready .any ops L := by simpa using h1
      have hq : isQuiet o.op = true := by rw [hop]; rfl
      have main : ∀ (Z' : List (Nat × Nat)), (∀ p, p ∈ Z → p ∈ Z') → (∀ b, RdAt E ι (σ.ev X) b → ¬ E b ∨ ∃ id base, (i, id) ∈ Z' ∧ ι id = some (some (b, base))) → opStep P Γ ops.toList o σ (fun σ' => planQ P Γ ops.toList Z' rest σ' K) → wpAnyM P Γ.own ops Q W (rest.depth + 1) L a w := by
        intro Z' hsub hrd h
        rcases step_cases s hN h with ⟨hw, σ1, s1, e1, hx, hg0⟩ | ⟨hw, σ1, hx, s1, e1⟩
        · have hσ := hg0 hgd
          subst hσ
          obtain ⟨v, σ', b, hb, hr, g1, g2, g3, g4⟩ := exec_load s hN hop hx
          refine wpAnyM_watch (R := fun x => x = b) ho hq (by rw [hop]; rfl) (Region.noSelect_spec hsel) hQp rest.depth L a w hc (Region.free_spec ho h2) hir (fun x hx => by subst hx; exact hb) (.inl ⟨hw, fun w2 h => g1 w2 (h b rfl)⟩) ?_
          refine (ih g3 (hc.set hir) (Z := Z') (fun k x hk => ?_) g2 (fun a2 w2 ⟨σ2, ι2, E2, k2, s2, x2⟩ => hQ a2 w2 ⟨σ2, ι2, E2, k2, s2, by rw [g4] at x2; exact x2⟩)).1 h5
          rcases hk with hk | ⟨rfl, rfl⟩
          · obtain ⟨q1, q2⟩ := hW k x hk
            exact ⟨q1, q2.imp id fun ⟨id, base, q3, q4⟩ => ⟨id, base, hsub _ q3, q4⟩⟩
          · exact ⟨hb, hrd _ hr⟩
        · have : Region.wanted o (yielded ops a.tmps) = true := by simp [Region.wanted, hgd]
          rw [this] at hw; cases hw
      split at h
      · rename_i cs he
        exact main Z (fun _ h => h) (fun b hb => .inl (by rw [he] at hb; exact hb)) h
      · rename_i id off he
        refine main ((i, id) :: Z) (fun _ h => .tail _ h) (fun b hb => .inr ?_) h
        rw [he] at hb
        obtain ⟨base, hb⟩ := hb
        exact ⟨id, base, .head _, hb⟩
      · rename_i id sz q off he
        refine main ((i, id) :: Z) (fun _ h => .tail _ h) (fun b hb => .inr ?_) h
        rw [he] at hb
        obtain ⟨base, hb⟩ := hb
        exact ⟨id, base, .head _, hb⟩
      · exact h.elim

end
end Go.Vm

set_option linter.unusedVariables false
set_option linter.unusedSimpArgs false
namespace Go.Vm

/-- From one state of a function to a later one: names from p on may have changed. -/
structure Ex (p : Nat) (ι : Inj) (h : Hp) (E : Nat → Prop) (w : World) (ι' : Inj) (h' : Hp) (E' : Nat → Prop) (w' : World) : Prop where
  os : w'.os = w.os
  tape : w'.tape = w.tape
  output : w'.output = w.output
  size : w.heap.size ≤ w'.heap.size
  inj : ∀ id q, id < p → ι id = some q → ι' id = some q
  old : ∀ b, b < w.heap.size → ¬ Own ι h b → w'.heap[b]? = w.heap[b]? ∧ (E' b ↔ E b)
  own : ∀ b, b < w.heap.size → Own ι' h' b → Own ι h b
  some : ∀ a, (w.cell? a).isSome = true → (w'.cell? a).isSome = true
  mark : ∀ a, a.block < w.heap.size → w'.frozen? a = w.frozen? a
  drawn : w.drawn ≤ w'.drawn

theorem Ext.ex {p : Nat} {ι ι' : Inj} {h h' : Hp} {E E' : Nat → Prop} {w w' : World} (x : Ext ι h E w ι' h' E' w') : Ex p ι h E w ι' h' E' w' :=
  ⟨x.os, x.tape, x.output, x.size, fun id q _ hq => x.inj id q hq, x.old, x.own, x.some, x.mark, x.drawn⟩
theorem Ex.trans {p : Nat} {ι ι' ι'' : Inj} {h h' h'' : Hp} {E E' E'' : Nat → Prop} {w w' w'' : World} (x : Ex p ι h E w ι' h' E' w') (y : Ex p ι' h' E' w' ι'' h'' E'' w'') : Ex p ι h E w ι'' h'' E'' w'' where
  os := y.os.trans x.os
  tape := y.tape.trans x.tape
  output := y.output.trans x.output
  size := Nat.le_trans x.size y.size
  inj := fun id q hi hq => y.inj _ _ hi (x.inj _ _ hi hq)
  old := fun b hb hn => by
    obtain ⟨h1, h2⟩ := x.old b hb hn
    obtain ⟨h3, h4⟩ := y.old b (Nat.lt_of_lt_of_le hb x.size) (fun ho => hn (x.own b hb ho))
    exact ⟨h3.trans h1, h4.trans h2⟩
  own := fun b hb ho => x.own b hb (y.own b (Nat.lt_of_lt_of_le hb x.size) ho)
  some := fun a ha => y.some a (x.some a ha)
  mark := fun a ha => (y.mark a (Nat.lt_of_lt_of_le ha x.size)).trans (x.mark a ha)
  drawn := Nat.le_trans x.drawn y.drawn

section
variable {P : Program} {E : Nat → Prop} {w : World} {ι : Inj} {N : Nat} {σ : St} {a : Act}

/-- What a piece of code leaves. -/
def LeftC (P : Program) (N p : Nat) (ι : Inj) (E : Nat → Prop) (σ : St) (w : World) (Q : Exit → St → Prop) (e : Exit) (a' : Act) (w' : World) : Prop :=
  ∃ σ' ι' E', Q e σ' ∧ Sim N ι' E' σ' a' w' ∧ Ex p ι σ.h E w ι' σ'.h E' w'

theorem keepQ_sound {s : List (Nat × AV)} : ∀ {ts : List Nat} {K : List (Nat × AV) → Prop}, keepQ s ts K → ∃ r, K r ∧ ∀ t x, get r t = some x → get s t = some x
  | [], K, h => ⟨[], h, fun t x hg => by simp [get] at hg⟩
  | t :: ts, K, h => by
    simp only [keepQ, frc_eq] at h
    split at h
    · rename_i x hx
      obtain ⟨r, h1, h2⟩ := keepQ_sound h
      refine ⟨_, h1, fun t' x' hg => ?_⟩
      rw [get_cons] at hg
      split at hg
      · rename_i e; subst e; cases hg; exact hx
      · exact h2 t' x' hg
    · exact keepQ_sound h

/-- a cell of a box, named otherwise -/
theorem rep_recell {n : Nat} {h : Hp} (r : Rep ι E w n h) {id c : Nat} {cs : List AV} {x : AV} (hg : get h id = some (.box cs)) (hx : ∀ y v, cs[c]? = some y → Rel E w ι y v → Rel E w ι x v) :
    Rep ι E w n ((id, .box (cs.set c x)) :: del h id) ∧ Ext ι h E w ι ((id, .box (cs.set c x)) :: del h id) E w := by
  have hget : ∀ {i o}, get ((id, Vm.Obj.box (cs.set c x)) :: del h id) i = some o → ∃ o', get h i = some o' := by
    intro i o hi
    rw [get_cons] at hi
    split at hi
    · rename_i e; subst e; exact ⟨_, hg⟩
    · rename_i e
      rw [get_del, if_neg e] at hi
      exact ⟨o, hi⟩
  refine ⟨⟨r.fresh, fun i o hi => ?_, fun i i' o o' b base base' h1 h2 h3 h4 => ?_, r.bound⟩, ⟨rfl, rfl, rfl, Nat.le_refl _, fun _ _ h => h, fun _ _ _ => ⟨rfl, Iff.rfl⟩, fun b _ ⟨i, o, base, h1, h2⟩ => ?_, fun _ h => h, fun _ _ => rfl, Nat.le_refl _⟩⟩
  · rw [get_cons] at hi
    split at hi
    · rename_i e; subst e; cases hi
      obtain ⟨b, base, h1, h2, h3, h4⟩ := r.obj id _ hg
      refine ⟨b, base, h1, h2, h3, fun i y hy => ?_⟩
      rw [List.getElem?_set] at hy
      split at hy
      · rename_i e; subst e
        split at hy
        · rename_i hlt
          cases hy
          obtain ⟨u, g1, g2, g3⟩ := h4 c _ (List.getElem?_eq_getElem hlt)
          exact ⟨u, g1, g2, hx _ _ (List.getElem?_eq_getElem hlt) g3⟩
        · cases hy
      · exact h4 i y hy
    · rename_i e
      rw [get_del, if_neg e] at hi
      exact r.obj i o hi
  · obtain ⟨p1, q1⟩ := hget h1
    obtain ⟨p2, q2⟩ := hget h2
    exact r.sep i i' _ _ b base base' q1 q2 h3 h4
  · obtain ⟨p1, q1⟩ := hget h1
    exact ⟨i, p1, base, q1, h2⟩

theorem rep_same {n : Nat} {h h' : Hp} (r : Rep ι E w n h) (hg : ∀ i, get h' i = get h i) : Rep ι E w n h' ∧ Ext ι h E w ι h' E w :=
  ⟨⟨r.fresh, fun i o hi => r.obj i o (by rw [← hg]; exact hi), fun i i' o o' b base base' h1 h2 h3 h4 => r.sep i i' o o' b base base' (by rw [← hg]; exact h1) (by rw [← hg]; exact h2) h3 h4, r.bound⟩,
    ⟨rfl, rfl, rfl, Nat.le_refl _, fun _ _ h => h, fun _ _ _ => ⟨rfl, Iff.rfl⟩, fun b _ ⟨i, o, base, h1, h2⟩ => ⟨i, o, base, by rw [← hg]; exact h1, h2⟩, fun _ h => h, fun _ _ => rfl, Nat.le_refl _⟩⟩

/-- a box's cells are frozen -/
theorem rep_frzB {n : Nat} {h : Hp} (r : Rep ι E w n h) {id : Nat} {cs : List AV} (hg : get h id = some (.box cs)) (hid : id ∉ refsL cs) {K : List AV → Prop} (hq : frzL h cs K) :
    ∃ ds E', K ds ∧ Rep ι E' w n ((id, .box ds) :: dels (del h id) (refsL cs)) ∧ Ext ι h E w ι ((id, .box ds) :: dels (del h id) (refsL cs)) E' w := by
  obtain ⟨b, base, h1, h2, h3, h4⟩ := r.obj id _ hg
  have hrl : RL E w ι cs ((List.range cs.length).map fun i => (w.cell? ⟨b, base + i, none⟩).getD default).toArray := by
    refine ⟨by simp, fun i x y hx hy => ?_⟩
    have hi := (List.getElem?_eq_some_iff.1 hx).1
    obtain ⟨u, hu, _, hr⟩ := h4 i x hx
    simp [List.getElem?_range hi, hu] at hy
    subst hy
    exact hr
  obtain ⟨ds, g1, g2, g3⟩ := frzL_sound r (S := fun x => x ∈ refsL cs) hrl (fun _ h => h) hq
  obtain ⟨r1, x1⟩ := release r (fun x => x ∈ refsL cs) (Sub.dels (refsL cs)) (fun i o hi hm => by rw [get_dels, if_pos hm] at hi; cases hi)
  have hget : ∀ i, get ((id, .box ds) :: dels (del h id) (refsL cs)) i = if id = i then some (.box ds) else get (dels h (refsL cs)) i := by
    intro i
    rw [get_cons]
    by_cases hi : id = i
    · rw [if_pos hi, if_pos hi]
    · rw [if_neg hi, if_neg hi, get_dels, get_dels, get_del, if_neg hi]
  have hidr : get (dels h (refsL cs)) id = some (.box cs) := by rw [get_dels, if_neg hid]; exact hg
  have hsome : ∀ i o, get ((id, .box ds) :: dels (del h id) (refsL cs)) i = some o → ∃ o', get (dels h (refsL cs)) i = some o' := by
    intro i o hi
    rw [hget] at hi
    split at hi
    · rename_i e; subst e; exact ⟨_, hidr⟩
    · exact ⟨o, hi⟩
  have hlen : ds.length = cs.length := by have := g1.1; simpa using this
  refine ⟨ds, _, g2, ⟨r1.fresh, fun i o hi => ?_, fun i i' o o' b1 base1 base2 k1 k2 => ?_, r1.bound⟩, x1.trans ⟨rfl, rfl, rfl, Nat.le_refl _, fun _ _ h => h, fun _ _ _ => ⟨rfl, Iff.rfl⟩, fun b1 _ hO => ?_, fun _ h => h, fun _ _ => rfl, Nat.le_refl _⟩⟩
  · rw [hget] at hi
    split at hi
    · rename_i e; subst e
      cases hi
      refine ⟨b, base, h1, r1.own_E ⟨id, _, base, hidr, h1⟩, h3, fun i c hc => ?_⟩
      have hil : i < cs.length := by rw [← hlen]; exact (List.getElem?_eq_some_iff.1 hc).1
      obtain ⟨u, hu, hf, _⟩ := h4 i _ (List.getElem?_eq_getElem hil)
      exact ⟨u, hu, hf, g1.2 i c u hc (by simp [List.getElem?_range hil, hu])⟩
    · exact r1.obj i o hi
  · obtain ⟨p, hp⟩ := hsome i o k1
    obtain ⟨q, hq'⟩ := hsome i' o' k2
    exact r1.sep i i' p q b1 base1 base2 hp hq'
  · obtain ⟨i, o, base1, k1, k2⟩ := hO
    obtain ⟨p, hp⟩ := hsome i o k1
    exact ⟨i, p, base1, hp, k2⟩

theorem hintQ_sound : ∀ (l : List Hint) {σ : St} {ι : Inj} {E : Nat → Prop} {K : St → Prop}, Sim N ι E σ a w → hintQ σ l K → ∃ σ' ι' E', K σ' ∧ Sim N ι' E' σ' a w ∧ Ext ι σ.h E w ι' σ'.h E' w
  | [], σ, ι, E, K, s, h => ⟨σ, ι, E, h, s, Ext.refl⟩
  | .freeze t :: r, ⟨n, hh, ss⟩, ι, E, K, s, h => by
    simp only [hintQ, frc_eq, frcH_eq] at h
    split at h
    case h_2 => exact h.elim
    rename_i x hx
    obtain ⟨v, hv1, hv2⟩ := s.slots t x hx
    obtain ⟨y, h1, h2, _⟩ := frzA_sound s.rep (S := fun id => id ∈ refsA x) hv2 (fun _ h => h) h
    obtain ⟨rr, xx⟩ := release s.rep (fun id => id ∈ refsA x) (Sub.dels (refsA x)) (fun id o hg hm => by rw [get_dels, if_pos hm] at hg; cases hg)
    have s' := (s.keep rr xx).more (t := t) (x := y) ⟨v, hv1, h1⟩
    obtain ⟨σ', ι', E', k, s2, x2⟩ := hintQ_sound r s' h2
    exact ⟨σ', ι', E', k, s2, xx.trans x2⟩
  | .virt t sz :: r, ⟨n, hh, ss⟩, ι, E, K, s, h => by
    simp only [hintQ, frcN_eq] at h
    split at h
    case h_3 => exact h.elim
    case h_2 => exact hintQ_sound r s h
    rename_i hx
    obtain ⟨v, hv1, hv2⟩ := s.slots t _ hx
    cases hv2
    obtain ⟨ι', g1, g2, g3⟩ := new_virtual s.rep Sub.refl sz none
    have s' := (s.keep g2 g3).more (t := t) ⟨_, hv1, g1⟩
    obtain ⟨σ', ι2, E', k, s2, x2⟩ := hintQ_sound r s' h
    exact ⟨σ', ι2, E', k, s2, g3.trans x2⟩
  | .keep ts :: r, ⟨n, hh, ss⟩, ι, E, K, s, h => by
    simp only [hintQ] at h
    obtain ⟨s', h1, h2⟩ := keepQ_sound h
    have s2 : Sim N ι E ⟨n, hh, s'⟩ a w := ⟨s.rep, fun t x hg => s.slots t x (h2 t x hg), s.size, s.defers⟩
    obtain ⟨σ', ι', E', k, s3, x3⟩ := hintQ_sound (σ := ⟨n, hh, s'⟩) r s2 h1
    exact ⟨σ', ι', E', k, s3, x3⟩

  | .virtB t c sz :: r, ⟨n, hh, ss⟩, ι, E, K, s, h => by
    simp only [hintQ, frcL_eq, frcH_eq, frcN_eq] at h
    split at h
    case h_2 => exact h.elim
    rename_i id hx
    split at h
    case h_2 => exact h.elim
    rename_i cs hg
    split at h
    case h_3 => exact h.elim
    case h_2 => exact hintQ_sound r s h
    rename_i hc
    obtain ⟨ι', g1, g2, g3⟩ := new_virtual s.rep Sub.refl sz none
    have s1 := s.keep g2 g3
    have hgn : get ((n, Vm.Obj.arr sz []) :: hh) id = some (.box cs) := by
      rw [get_cons, if_neg (fun e => by subst e; rw [s.rep.get_n] at hg; cases hg)]; exact hg
    have hne : id ≠ n := fun e => by subst e; rw [s.rep.get_n] at hg; cases hg
    obtain ⟨r2, x2⟩ := rep_recell s1.rep (c := c) (x := .os n sz 0 0) hgn (fun y v hy hr => by
      rw [hc] at hy; cases hy
      cases hr
      exact .osz _ _ _ _)
    obtain ⟨r3, x3⟩ := rep_same r2 (h' := (n, .arr sz []) :: (id, .box (cs.set c (.os n sz 0 0))) :: del hh id) (fun i => by
      simp only [get_cons, get_del]
      by_cases h1 : id = i
      · subst h1; simp [Ne.symm hne]
      · by_cases h2 : n = i
        · subst h2; simp [h1, hne]
        · simp [h1, h2, Ne.symm h1])
    have s3 := (s1.keep r2 x2).keep r3 x3
    obtain ⟨σ', ι2, E', k, s4, x4⟩ := hintQ_sound r s3 h
    exact ⟨σ', ι2, E', k, s4, ((g3.trans x2).trans x3).trans x4⟩

  | .freezeB t :: r, ⟨n, hh, ss⟩, ι, E, K, s, h => by
    simp only [hintQ, frcL_eq, frcH_eq] at h
    split at h
    case h_2 => exact h.elim
    rename_i id hx
    split at h
    case h_2 => exact h.elim
    rename_i cs hg
    split at h
    case h_2 => exact h.elim
    rename_i he
    obtain ⟨ds, E', k1, k2, k3⟩ := rep_frzB s.rep hg (fun hm => by rw [elemN_spec.2 hm] at he; cases he) h
    obtain ⟨σ', ι2, E2, k, s4, x4⟩ := hintQ_sound r (s.keep k2 k3) k1
    exact ⟨σ', ι2, E2, k, s4, k3.trans x4⟩

theorem closed_start (ops : Array Oper) : Closed ops (Array.replicate ops.size false) := by
  intro j oj hj hl
  rcases Nat.lt_or_ge j ops.size with h | h
  · simp [h] at hl
  · simp [h] at hl

theorem regionQ_sound {Γ : Ctx} (hN : Γ.N = N) (hm : P.follows .mixedOrders = true) {id : Nat} {ops : Array Oper} {draw : Bool} {K : St → Prop} (s : Sim N ι E σ a w) (h : regionQ P Γ id ops.toList draw σ K) {Q : Exit → Act → World → Prop} (hQ : ∀ a' w', Left P N ι E σ w K a' w' → Q .normal a' w') :
    (Code.region id ops draw).wp P Q a w := by
  unfold regionQ at h
  obtain ⟨σ1, ι1, E1, h1, s1, x1⟩ := hintQ_sound _ s h
  cases draw with
  | false =>
    refine wp_region (opsQ_sound hN (List.range ops.size) ops.toList s1 (fun q => ?_) h1 (fun a' w' ⟨σ2, ι2, E2, k, s2, x2⟩ => hQ a' w' ⟨σ2, ι2, E2, k, s2, x1.trans x2⟩))
    simp only [List.getElem?_map]
    rcases Nat.lt_or_ge q ops.size with hq | hq
    · simp [List.getElem?_range hq, hq]
    · simp [hq]
  | true =>
    simp only at h1
    split at h1
    case h_2 => exact h1.elim
    rename_i pl hpl
    obtain ⟨hok, h2⟩ := h1.elim
    have hok' : planOk Γ.own ops pl = true := by simpa using hok
    simp only [planOk, Bool.and_eq_true, beq_iff_eq] at hok'
    obtain ⟨hsel, hd, hp⟩ := hok'
    obtain ⟨rd, xd⟩ := rep_drew s1.rep
    have sd : Sim N ι1 E1 σ1 a { w with drawn := w.drawn + 1 } := s1.keep rd xd
    refine wp_mono (Q := fun e a' w' => e = .normal ∧ Left P N ι E σ w K a' w') ?_ (fun e a' w' ⟨he, hl⟩ => he ▸ hQ a' w' hl)
    refine wp_region_any hm (wpAny_of_M (W := fun _ _ => False) (own := Γ.own) _ _ _ _ ?_)
    have goal := planQ_sound hN hsel (Q := fun e a' w' => e = .normal ∧ Left P N ι E σ w K a' w') (fun c a w h => by cases h.1) pl sd (closed_start ops) (Z := []) (W := fun _ _ => False) (fun _ _ h => h.elim) h2 (fun a' w' ⟨σ2, ι2, E2, k, s2, x2⟩ => ⟨rfl, σ2, ι2, E2, k, s2, (x1.trans xd).trans x2⟩)
    have goal := goal.1 hp
    rw [hd] at goal
    exact goal

/-! ### names changed -/
theorem sren1_rel {ρ : Nat → Option Nat} {ι' : Inj} (hρ : ∀ id j, ρ id = some j → ι' id = ι j) {x y : AV} {v : Value} (hx : sren1 ρ x = some y) (hy : Rel E w ι y v) : Rel E w ι' x v := by
  have same : sren1 ρ x = some x → x.noref1 = true → Rel E w ι' x v := fun h1 h2 => by
    rw [h1] at hx; cases hx; exact hy.noref1 h2
  cases x with
  | op id off =>
    simp only [sren1] at hx
    cases hj : ρ id with
    | none => simp [hj] at hx
    | some j =>
      simp only [hj, Option.some.injEq] at hx; subst hx
      cases hy with
      | op _ _ b base hι => exact .op id off b base (by rw [hρ _ _ hj]; exact hι)
  | ep id sz i off =>
    simp only [sren1] at hx
    cases hj : ρ id with
    | none => simp [hj] at hx
    | some j =>
      simp only [hj, Option.some.injEq] at hx; subst hx
      cases hy with
      | ep _ _ _ _ b base hι => exact .ep id sz i off b base (by rw [hρ _ _ hj]; exact hι)
  | os id sz off len =>
    simp only [sren1] at hx
    cases hj : ρ id with
    | none => simp [hj] at hx
    | some j =>
      simp only [hj, Option.some.injEq] at hx; subst hx
      cases hy with
      | osz _ _ _ a => exact .osz id sz off a
      | os _ _ _ _ b base cap hι hc hcell => exact .os id sz off len b base cap (by rw [hρ _ _ hj]; exact hι) hc hcell
  | agg => simp [sren1] at hx
  | tup => simp [sren1] at hx
  | fn f fs cs =>
    cases fs with
    | nil => cases cs with
      | nil => exact same rfl rfl
      | cons _ _ => simp [sren1] at hx
    | cons _ _ => simp [sren1] at hx
  | _ => exact same rfl rfl

theorem srenL_rel {ρ : Nat → Option Nat} {ι' : Inj} (hρ : ∀ id j, ρ id = some j → ι' id = ι j) : ∀ {xs ys : List AV} {c : Array Value}, srenL ρ xs = some ys → RL E w ι ys c → RL E w ι' xs c
  | [], ys, c, hx, hy => by
    simp only [srenL, Option.some.injEq] at hx; subst hx
    cases hy.nil; exact rl_nil
  | x :: xs, ys, c, hx, hy => by
    simp only [srenL] at hx
    split at hx
    · rename_i y ys' h1 h2
      cases hx
      obtain ⟨v, vs, rfl, g1, g2⟩ := hy.head
      exact RL.cons (sren1_rel hρ h1 g1) (srenL_rel hρ h2 g2)
    · cases hx

theorem srenL_nth {ρ : Nat → Option Nat} : ∀ {xs ys : List AV} {i : Nat} {x : AV}, srenL ρ xs = some ys → xs[i]? = some x → ∃ y, ys[i]? = some y ∧ sren1 ρ x = some y
  | [], ys, i, x, _, hx => by simp at hx
  | z :: zs, ys, i, x, hs, hx => by
    simp only [srenL] at hs
    split at hs
    · rename_i y ys' e1 e2
      cases hs
      cases i with
      | zero => simp at hx; subst hx; exact ⟨y, rfl, e1⟩
      | succ i =>
        obtain ⟨y2, g1, g2⟩ := srenL_nth (i := i) (x := x) e2 (by simpa using hx)
        exact ⟨y2, by simpa using g1, g2⟩
    · cases hs

theorem srenA_rel {ρ : Nat → Option Nat} {ι' : Inj} (hρ : ∀ id j, ρ id = some j → ι' id = ι j) {x y : AV} {v : Value} (hx : srenA ρ x = some y) (hy : Rel E w ι y v) : Rel E w ι' x v := by
  cases x with
  | agg cs =>
    simp only [srenA] at hx
    split at hx
    · rename_i ds hd
      cases hx
      cases hy with
      | agg _ c hs h =>
        have := srenL_rel hρ hd ⟨hs, h⟩
        exact .agg _ _ this.1 this.2
    · cases hx
  | fn f p q =>
    simp only [srenA] at hx
    split at hx
    · rename_i p' q' h1 h2
      cases hx
      cases hy with
      | fn _ _ _ F C hF hC g1 g2 =>
        have t1 := srenL_rel hρ h1 ⟨hF, g1⟩
        have t2 := srenL_rel hρ h2 ⟨hC, g2⟩
        exact .fn f _ _ _ _ t1.1 t2.1 t1.2 t2.2
    · cases hx
  | _ => exact sren1_rel hρ hx hy

theorem injB_spec : ∀ {ρ : List (Nat × Nat)}, injB ρ = true → ∀ {i i' j}, get ρ i = some j → get ρ i' = some j → i = i'
  | [], _, i, i', j, h1, _ => by simp [get] at h1
  | (k, v) :: r, h, i, i', j, h1, h2 => by
    simp only [injB, Bool.and_eq_true, List.all_eq_true] at h
    obtain ⟨ha, hr⟩ := h
    have hnv : ∀ {q u}, get r q = some u → u ≠ v := by
      intro q u hg
      have hm : ∀ {l : List (Nat × Nat)} {q u}, get l q = some u → (q, u) ∈ l := by
        intro l
        induction l with
        | nil => intro q u hg; simp [get] at hg
        | cons p l ih =>
          obtain ⟨k', v'⟩ := p
          intro q u hg
          rw [get_cons] at hg
          split at hg
          · rename_i e; subst e; cases hg; simp
          · exact List.mem_cons_of_mem _ (ih hg)
      have := (ha _ (hm hg)).2
      intro e; subst e
      rw [beq_self] at this; simp at this
    rw [get_cons] at h1 h2
    split at h1 <;> split at h2
    · omega
    · cases h1; exact absurd rfl (hnv h2)
    · cases h2; exact absurd rfl (hnv h1)
    · exact injB_spec hr h1 h2
theorem belowB_spec {n : Nat} : ∀ {ρ : List (Nat × Nat)}, belowB n ρ = true → ∀ {i j}, get ρ i = some j → i < n
  | [], _, i, j, h1 => by simp [get] at h1
  | (k, v) :: r, h, i, j, h1 => by
    simp only [belowB, Bool.and_eq_true] at h
    rw [get_cons] at h1
    split at h1
    · rename_i e; subst e
      have h' : k + 1 ≤ n := by simpa [Nat.blt] using h.1
      exact h'
    · exact belowB_spec h.2 h1
theorem fixB_spec {ρ : List (Nat × Nat)} : ∀ {p : Nat}, fixB ρ p = true → ∀ i, i < p → get ρ i = some i
  | 0, _, i, hi => by omega
  | k + 1, h, i, hi => by
    simp only [fixB, Bool.and_eq_true] at h
    obtain ⟨h1, h2⟩ := h
    by_cases hik : i = k
    · subst hik
      split at h1
      · rename_i j hj
        rw [hj, Nat.eq_of_beq_eq_true h1]
      · cases h1
    · exact fixB_spec h2 i (by omega)

theorem leS_get {ρ : List (Nat × Nat)} : ∀ {s : List (Nat × AV)} {σ : St}, LeS ρ s σ → ∀ {t x}, get s t = some x → ∃ y, srenA (get ρ) x = some y ∧ get σ.s t = some y
  | [], σ, _, t, x, hg => by simp [get] at hg
  | (k, z) :: r, σ, h, t, x, hg => by
    simp only [LeS] at h
    rw [get_cons] at hg
    split at hg
    · rename_i e; subst e; cases hg
      have := h.1
      split at this
      · rename_i y hy; exact ⟨y, hy, this⟩
      · exact this.elim
    · exact leS_get h.2 hg
theorem leH_get {ρ : List (Nat × Nat)} : ∀ {s : Hp} {σ : St}, LeH ρ s σ → ∀ {id o}, get s id = some o → ∃ j o', get ρ id = some j ∧ srenO (get ρ) o = some o' ∧ get σ.h j = some o'
  | [], σ, _, t, x, hg => by simp [get] at hg
  | (k, z) :: r, σ, h, t, x, hg => by
    simp only [LeH] at h
    rw [get_cons] at hg
    split at hg
    · rename_i e; subst e; cases hg
      have := h.1
      split at this
      · rename_i j o' hj ho; exact ⟨j, o', hj, ho, this⟩
      · exact this.elim
    · exact leH_get h.2 hg

theorem Le.sim {p : Nat} {s : St} (hle : Le p s σ) (sm : Sim N ι E σ a w) : ∃ ι', Sim N ι' E s a w ∧ Ex p ι σ.h E w ι' s.h E w := by
  obtain ⟨ρ, hb, hS, hH⟩ := hle
  simp only [Bool.and_eq_true] at hb
  obtain ⟨h1, h2, h3⟩ := hb
  let ι' : Inj := fun id => match get ρ id with
    | some j => ι j
    | none => none
  have hρ : ∀ id j, get ρ id = some j → ι' id = ι j := fun id j hj => by simp only [ι', hj]
  have hown : ∀ b, Own ι' s.h b → Own ι σ.h b := by
    rintro b ⟨id, o, base, g1, g2⟩
    obtain ⟨j, o', a1, a2, a3⟩ := leH_get hH g1
    exact ⟨j, o', base, a3, by rw [← hρ id j a1]; exact g2⟩
  refine ⟨ι', ⟨⟨fun id hid => ?_, fun id o hg => ?_, fun id id' o o' b base base' e1 e2 e3 e4 => ?_, sm.rep.bound⟩, fun t x hg => ?_, sm.size, sm.defers⟩,
    ⟨rfl, rfl, rfl, Nat.le_refl _, fun id q hid hq => by rw [hρ id id (fixB_spec h3 id hid)]; exact hq, fun _ _ _ => ⟨rfl, Iff.rfl⟩, fun b _ ho => hown b ho, fun _ h => h, fun _ _ => rfl, Nat.le_refl _⟩⟩
  · simp only [ι']
    split
    · rename_i j hj
      have := belowB_spec h2 hj
      omega
    · rfl
  · obtain ⟨j, o', a1, a2, a3⟩ := leH_get hH hg
    have ho := sm.rep.obj j o' a3
    cases o with
    | box cs =>
      simp only [srenO] at a2
      split at a2
      · rename_i ds hd
        cases a2
        obtain ⟨b, base, b1, b2, b3, b4⟩ := ho
        refine ⟨b, base, by rw [hρ id j a1]; exact b1, b2, b3, fun i c hc => ?_⟩
        obtain ⟨y, hy1, hy2⟩ := srenL_nth hd hc
        obtain ⟨u, c1, c2, c3⟩ := b4 i y hy1
        exact ⟨u, c1, c2, sren1_rel hρ hy2 c3⟩
      · cases a2
    | arr sz xs =>
      simp only [srenO, Option.some.injEq] at a2
      subst a2
      rcases ho with ⟨b1, b2⟩ | ⟨b, base, b1, b2⟩
      · exact .inl ⟨by rw [hρ id j a1]; exact b1, b2⟩
      · exact .inr ⟨b, base, by rw [hρ id j a1]; exact b1, b2⟩
  · obtain ⟨j, p1, a1, a2, a3⟩ := leH_get hH e1
    obtain ⟨j', p2, b1, b2, b3⟩ := leH_get hH e2
    rw [hρ id j a1] at e3
    rw [hρ id' j' b1] at e4
    have := sm.rep.sep _ _ _ _ _ _ _ a3 b3 e3 e4
    subst this
    exact injB_spec h1 a1 b1
  · obtain ⟨y, y1, y2⟩ := leS_get hS hg
    obtain ⟨v, v1, v2⟩ := sm.slots t y y2
    exact ⟨v, v1, srenA_rel hρ y1 v2⟩

theorem Lp0.elim {p : Nat} {body : St → (Exit → St → Prop) → Prop} {Q : Exit → St → Prop} (h : Lp0 p body σ Q) : ∃ (G : Type) (S : G → St) (Inv : G → Prop) (μ : G → Nat), (∃ g, Inv g ∧ Le p (S g) σ) ∧
    ∀ g, Inv g → body (S g) fun e σ' => match e with
      | .normal => ∃ g', Inv g' ∧ μ g' < μ g ∧ Le p (S g') σ'
      | e => Q e σ' := h.out

/-- a loop that comes to its end, from its body's beginning -/
def LRuns (P : Program) (c : Code) (Q : Exit → Act → World → Prop) (a : Act) (w : World) : Prop :=
  ∀ b k cs, ∃ e a' w', Q e a' w' ∧ Arrives P (lone (b.at a (.code c :: .inLoop c :: k)) cs w) b k cs e a' w'
theorem lruns_round {c : Code} {Q : Exit → Act → World → Prop} {a : Act} {w : World} (h : c.wp P (Exit.then (LRuns P c Q) Q) a w) : LRuns P c Q a w := by
  intro b k cs
  obtain ⟨e, a₁, w₁, hq, harr⟩ := h b (.inLoop c :: k) cs
  cases e with
  | normal =>
    obtain ⟨e₂, a₂, w₂, hq₂, harr₂⟩ := hq b k cs
    exact ⟨e₂, a₂, w₂, hq₂, .of_steps (Steps.trans harr (.one step_inLoop)) harr₂⟩
  | exit id => exact ⟨_, a₁, w₁, hq, .pass (x := .inLoop c) rfl (fun _ _ => .inl (by simp)) harr⟩
  | goto l => exact ⟨_, a₁, w₁, hq, .pass (x := .inLoop c) rfl (fun _ _ => .inl (by simp)) harr⟩
  | ret => exact ⟨_, a₁, w₁, hq, .pass (x := .inLoop c) rfl (fun _ _ => .inl (by simp)) harr⟩
  | panic ch => exact ⟨_, a₁, w₁, hq, .pass (x := .inLoop c) rfl (fun _ _ => .inl (by simp)) harr⟩
  | outgrown => exact ⟨_, a₁, w₁, hq, .pass (x := .inLoop c) rfl (fun _ _ => .inl (by simp)) harr⟩
theorem lruns_loop {c : Code} {Q : Exit → Act → World → Prop} {a : Act} {w : World} (h : LRuns P c Q a w) : (Code.loop c).wp P Q a w := by
  intro b k cs
  obtain ⟨e, a', w', hq, harr⟩ := h b k cs
  exact ⟨e, a', w', hq, .of_steps (.one step_loop) harr⟩
theorem lruns_ghost {c : Code} {Q : Exit → Act → World → Prop} (I : Nat → Act → World → Prop) (round : ∀ n a w, I n a w → c.wp P (Exit.then (fun a' w' => ∃ n', n' < n ∧ I n' a' w') Q) a w) : ∀ (n : Nat) (a : Act) (w : World), I n a w → LRuns P c Q a w := by
  intro n
  induction n using Nat.strongRecOn with
  | ind n ih =>
    intro a w hI
    refine lruns_round (wp_mono (round n a w hI) ?_)
    intro e a' w' hq
    cases e with
    | normal => obtain ⟨n', hlt, h'⟩ := hq; exact ih n' hlt a' w' h'
    | exit id => exact hq
    | goto l => exact hq
    | ret => exact hq
    | panic ch => exact hq
    | outgrown => exact hq

theorem codeQ_sound {Γ : Ctx} (hN : Γ.N = N) (hm : P.follows .mixedOrders = true) : ∀ (c : Code) {σ : St} {a : Act} {w : World} {ι : Inj} {E : Nat → Prop} {Q : Exit → St → Prop}, Sim N ι E σ a w → codeQ P Γ c σ Q → c.wp P (LeftC P N Γ.np ι E σ w Q) a w := by
  intro c
  induction c with
  | skip => intro σ a w ι E Q s h; exact wp_skip ⟨σ, ι, E, h, s, Ext.refl.ex⟩
  | region id ops draw => intro σ a w ι E Q s h; exact regionQ_sound hN hm s h (fun a' w' ⟨σ', ι', E', k, s', x'⟩ => ⟨σ', ι', E', k, s', x'.ex⟩)
  | seq x y ihx ihy =>
    intro σ a w ι E Q s h
    simp only [codeQ] at h
    split at h
    · obtain ⟨G, S, Inv, h1, h2⟩ := h.out
      refine wp_seq (wp_mono (ihx s h1) ?_)
      rintro e a' w' ⟨σ', ι', E', k, s', x'⟩
      cases e with
      | normal =>
        obtain ⟨g, hg, hle⟩ := k
        obtain ⟨ι0, s0, x0⟩ := hle.sim s'
        exact wp_mono (ihy s0 (h2 g hg)) (fun e2 a2 w2 ⟨σ2, ι2, E2, k2, s2, x2⟩ => ⟨σ2, ι2, E2, k2, s2, (x'.trans x0).trans x2⟩)
      | exit i => exact ⟨σ', ι', E', k, s', x'⟩
      | goto l => exact ⟨σ', ι', E', k, s', x'⟩
      | ret => exact ⟨σ', ι', E', k, s', x'⟩
      | panic ch => exact ⟨σ', ι', E', k, s', x'⟩
      | outgrown => exact ⟨σ', ι', E', k, s', x'⟩
    · refine wp_seq (wp_mono (ihx s h) ?_)
      rintro e a' w' ⟨σ', ι', E', k, s', x'⟩
      cases e with
      | normal => exact wp_mono (ihy s' k) (fun e2 a2 w2 ⟨σ2, ι2, E2, k2, s2, x2⟩ => ⟨σ2, ι2, E2, k2, s2, x'.trans x2⟩)
      | exit i => exact ⟨σ', ι', E', k, s', x'⟩
      | goto l => exact ⟨σ', ι', E', k, s', x'⟩
      | ret => exact ⟨σ', ι', E', k, s', x'⟩
      | panic ch => exact ⟨σ', ι', E', k, s', x'⟩
      | outgrown => exact ⟨σ', ι', E', k, s', x'⟩
  | cond c x y ihx ihy =>
    intro σ a w ι E Q s h
    have hc := s.ev c
    simp only [codeQ] at h
    split at h
    · rename_i he; rw [he] at hc
      exact wp_cond (rel_v hc) (by simpa using ihx s h)
    · rename_i he; rw [he] at hc
      exact wp_cond (rel_v hc) (by simpa using ihy s h)
    · rename_i b he; rw [he] at hc
      obtain ⟨h1, h2⟩ := h.elim
      exact wp_cond_split (rel_toB hc rfl) (fun hb => ihx s (h1 hb)) (fun hb => ihy s (h2 hb))
    · exact h.elim
  | block id c ih =>
    intro σ a w ι E Q s h
    refine wp_block (wp_mono (ih s h) ?_)
    rintro e a' w' ⟨σ', ι', E', k, s', x'⟩
    cases e with
    | normal => exact ⟨σ', ι', E', k, s', x'⟩
    | exit i =>
      simp only at k
      simp only [Exit.inBlock]
      split at k
      · rename_i hb
        rw [if_pos (Nat.eq_of_beq_eq_true hb)]
        exact ⟨σ', ι', E', k, s', x'⟩
      · rename_i hb
        rw [if_neg (fun e => by subst e; rw [beq_self] at hb; cases hb)]
        exact ⟨σ', ι', E', k, s', x'⟩
    | goto l => exact ⟨σ', ι', E', k, s', x'⟩
    | ret => exact ⟨σ', ι', E', k, s', x'⟩
    | panic ch => exact ⟨σ', ι', E', k, s', x'⟩
    | outgrown => exact ⟨σ', ι', E', k, s', x'⟩
  | loop c ih =>
    intro σ a w ι E Q s h
    obtain ⟨n, hn⟩ := h.out
    have base : ∀ {σ : St} {a : Act} {w : World} {ι : Inj} {E : Nat → Prop}, Sim N ι E σ a w → Lp0 Γ.np (codeQ P Γ c) σ Q → LRuns P c (LeftC P N Γ.np ι E σ w Q) a w := by
      intro σ a w ι E s h
      obtain ⟨G, S, Inv, μ, ⟨g, hg, hle⟩, hround⟩ := h.elim
      obtain ⟨ι0, s0, x0⟩ := hle.sim s
      refine lruns_ghost (fun m a' w' => ∃ g ι' E', μ g = m ∧ Inv g ∧ Sim N ι' E' (S g) a' w' ∧ Ex Γ.np ι σ.h E w ι' (S g).h E' w') ?_ (μ g) a w ⟨g, ι0, E, rfl, hg, s0, x0⟩
      rintro m a' w' ⟨g', ι', E', rfl, hg', s', x'⟩
      refine wp_mono (ih s' (hround g' hg')) ?_
      rintro e a2 w2 ⟨σ2, ι2, E2, k2, s2, x2⟩
      cases e with
      | normal =>
        obtain ⟨g2, hg2, hlt, hle2⟩ := k2
        obtain ⟨ι3, s3, x3⟩ := hle2.sim s2
        exact ⟨μ g2, hlt, g2, ι3, E2, rfl, hg2, s3, (x'.trans x2).trans x3⟩
      | exit i => exact ⟨σ2, ι2, E2, k2, s2, x'.trans x2⟩
      | goto l => exact ⟨σ2, ι2, E2, k2, s2, x'.trans x2⟩
      | ret => exact ⟨σ2, ι2, E2, k2, s2, x'.trans x2⟩
      | panic ch => exact ⟨σ2, ι2, E2, k2, s2, x'.trans x2⟩
      | outgrown => exact ⟨σ2, ι2, E2, k2, s2, x'.trans x2⟩
    refine lruns_loop ?_
    clear h
    induction n generalizing σ a w ι E with
    | zero => exact base s hn
    | succ n ihn =>
      rcases hn with hn | hn
      · exact base s hn
      refine lruns_round (wp_mono (ih s hn) ?_)
      rintro e a2 w2 ⟨σ2, ι2, E2, k2, s2, x2⟩
      cases e with
      | normal =>
        intro b k cs
        obtain ⟨e, a', w', hq, harr⟩ := ihn s2 k2.out b k cs
        refine ⟨e, a', w', ?_, harr⟩
        obtain ⟨σ3, ι3, E3, k3, s3, x3⟩ := hq
        exact ⟨σ3, ι3, E3, k3, s3, x2.trans x3⟩
      | exit i => exact ⟨σ2, ι2, E2, k2, s2, x2⟩
      | goto l => exact ⟨σ2, ι2, E2, k2, s2, x2⟩
      | ret => exact ⟨σ2, ι2, E2, k2, s2, x2⟩
      | panic ch => exact ⟨σ2, ι2, E2, k2, s2, x2⟩
      | outgrown => exact ⟨σ2, ι2, E2, k2, s2, x2⟩
  | exit id => intro σ a w ι E Q s h; exact wp_exit ⟨σ, ι, E, h, s, Ext.refl.ex⟩
  | ret => intro σ a w ι E Q s h; exact wp_ret ⟨σ, ι, E, h, s, Ext.refl.ex⟩
  | label l => intro σ a w ι E Q s h; exact wp_label ⟨σ, ι, E, h, s, Ext.refl.ex⟩
  | rangeFunc => intro σ a w ι E Q s h; exact h.elim
  | scope => intro σ a w ι E Q s h; exact h.elim
  | goto => intro σ a w ι E Q s h; exact h.elim
  | refuse => intro σ a w ι E Q s h; exact h.elim

end
end Go.Vm

set_option linter.unusedVariables false
set_option linter.unusedSimpArgs false
namespace Go.Vm

section
variable {P : Program} {E : Nat → Prop} {w : World} {ι : Inj} {N : Nat} {σ : St} {a : Act}

def resM (tmps : Array Value) : ResultVar → Sem Value
  | .tmp t => pure (tmps.getD t undef)
  | .cell a t => do loadVar t (← asAddr (tmps.getD a undef))

theorem loadAt_as {t : TypeId} {a v : Value} {w' : World} (h : (Instr.loadAt t a).run P w = .ok v w') : (do loadVar t (← asAddr a) : Sem Value).run P w = .ok v w' := by
  cases a with
  | pointer p =>
    cases p with
    | some q => simpa [Instr.loadAt, Instr.sureAddr, asAddr] using h
    | none => simp [Instr.loadAt, Instr.sureAddr, stuck] at h
  | _ => simp [Instr.loadAt, Instr.sureAddr, stuck] at h

theorem resL_sound (s : Sim N ι E σ a w) : ∀ {rs : List ResultVar} {K : List AV → Prop}, resL P σ rs K → ∃ vs xs, (rs.mapM (resM a.tmps)).run P w = .ok vs w ∧ RL E w ι xs vs.toArray ∧ K xs
  | [], K, h => ⟨[], [], by simp, rl_nil, h⟩
  | .tmp t :: r, K, h => by
    simp only [resL] at h
    split at h
    case h_2 => exact h.elim
    rename_i x hx
    obtain ⟨v, h1, h2⟩ := s.slots t x hx
    obtain ⟨vs, xs, g1, g2, g3⟩ := resL_sound s h
    refine ⟨v :: vs, x :: xs, ?_, ?_, g3⟩
    · simp [List.mapM_cons, resM, h1, g1]
    · have := RL.cons h2 g2
      simpa using this
  | .cell c t :: r, K, h => by
    simp only [resL] at h
    split at h
    case h_2 => exact h.elim
    rename_i x hx
    obtain ⟨v, h1, h2⟩ := s.slots c x hx
    obtain ⟨qb, qh, ⟨u, y, q1, q2, q3⟩, _⟩ := ldQ_at s.rep h2 h
    obtain ⟨vs, xs, g1, g2, g3⟩ := resL_sound s q3
    have q1' := loadAt_as (q1 w rfl)
    refine ⟨u :: vs, y :: xs, ?_, ?_, g3⟩
    · simp only [List.mapM_cons, resM, show a.tmps.getD c undef = v by simp [h1], Sem.run_bind, q1', Result.andThen_ok, g1, Sem.run_pure]
    · have := RL.cons q2 g2
      simpa using this

theorem results_run {fn : Func} (s : Sim N ι E σ a w) {K : List AV → Prop} (h : resL P σ fn.results.toList K) : ∃ v xs, (results fn a.tmps).run P w = .ok v w ∧ Rel E w ι (one? xs) v ∧ K xs := by
  obtain ⟨vs, xs, h1, h2, h3⟩ := resL_sound s h
  have hr : (results fn a.tmps).run P w = .ok (if h : vs.toArray.size = 1 then vs.toArray[0] else .tuple vs.toArray) w := by
    have e : results fn a.tmps = (do
        let vs ← fn.results.mapM (resM a.tmps)
        pure (if h : vs.size = 1 then vs[0] else .tuple vs) : Sem Value) := by
      unfold results
      congr 2
    rw [e, Array.mapM_eq_mapM_toList]
    simp [h1]
  refine ⟨_, xs, hr, ?_, h3⟩
  have hl : xs.length = vs.length := h2.1
  cases vs with
  | nil =>
    cases xs with
    | nil => exact .tup _ _ h2.1 h2.2
    | cons x xs => simp at hl
  | cons v vs =>
    cases xs with
    | nil => simp at hl
    | cons x xs =>
      cases vs with
      | nil =>
        cases xs with
        | nil =>
          have := h2.2 0 x v (by simp) (by simp)
          simpa [one?] using this
        | cons x' xs => simp at hl
      | cons v' vs =>
        cases xs with
        | nil => simp at hl
        | cons x' xs =>
          simp only [List.size_toArray, List.length_cons, one?]
          rw [dif_neg (by omega)]
          exact .tup _ _ h2.1 h2.2

theorem frzR_sound {n : Nat} {h : Hp} (r : Rep ι E w n h) {x : AV} {v : Value} {K : AV → Prop} (hx : Rel E w ι x v) (hq : frzR h x K) : ∃ y, Rel (Eout ι h (fun i => i ∈ refsT x) E) w ι y v ∧ K y := by
  cases x with
  | tup vs =>
    cases hx with
    | tup _ c hs hc =>
      obtain ⟨ys, g1, g2, g3⟩ := frzAL_sound r (S := fun i => i ∈ refsAL vs) ⟨hs, hc⟩ (fun _ h => h) hq
      exact ⟨.tup ys, .tup _ _ g1.1 g1.2, g2⟩
  | _ =>
    obtain ⟨y, g1, g2, g3⟩ := frzA_sound r (S := fun i => i ∈ refsA _) hx (fun _ h => h) hq
    exact ⟨y, g1, g2⟩

theorem Rel.norefT {x : AV} {v : Value} {ι' : Inj} (hx : Rel E w ι x v) (hn : x.norefT = true) : Rel E w ι' x v := by
  cases x with
  | tup vs =>
    cases hx with
    | tup _ c hs hc =>
      have := RL.noref (ι' := ι') ⟨hs, hc⟩ hn
      exact .tup _ _ this.1 this.2
  | _ => exact hx.noref hn

theorem upTo_get : ∀ (p i : Nat), (upTo p)[i]? = if i < p then some i else none
  | 0, i => by simp [upTo]
  | k + 1, i => by
    have hl : (upTo k).length = k := by
      have : ∀ k, (upTo k).length = k := by
        intro k; induction k with
        | zero => rfl
        | succ k ih => simp [upTo, ih]
      exact this k
    simp only [upTo]
    rw [List.getElem?_append, hl, upTo_get k]
    by_cases h1 : i < k
    · simp [h1, show i < k + 1 by omega]
    · by_cases h2 : i = k
      · subst h2; simp
      · rw [if_neg h1, if_neg (by omega), List.getElem?_eq_none (by simp; omega)]
theorem upTo_len (p : Nat) : (upTo p).length = p := by
  induction p with
  | zero => rfl
  | succ k ih => simp [upTo, ih]
theorem upTo_nodup : ∀ (p : Nat), (upTo p).Nodup ∧ ∀ i, i ∈ upTo p → i < p
  | 0 => by simp [upTo]
  | k + 1 => by
    obtain ⟨h1, h2⟩ := upTo_nodup k
    refine ⟨?_, fun i hi => ?_⟩
    · simp only [upTo]
      rw [List.nodup_append]
      refine ⟨h1, by simp, fun a ha b hb => ?_⟩
      simp at hb; subst hb
      have := h2 a ha; omega
    · simp only [upTo, List.mem_append, List.mem_singleton] at hi
      rcases hi with hi | hi
      · have := h2 i hi; omega
      · omega

/-- the end: what was own at the beginning comes first -/
theorem fin_ext {p : Nat} {ι0 : Inj} {h0 : Hp} {E0 : Nat → Prop} {w0 : World} {h : Hp} {n : Nat} (r : Rep ι E w n h) (hf : ∀ id, p ≤ id → ι0 id = none) (x : Ex p ι0 h0 E0 w0 ι h E w) {ids : List Nat} {objs : List Obj}
    (hi : ∀ i, i < p → ids[i]? = some i) (hnd : ids.Nodup) (hl : ids.length = objs.length) (ho : ∀ (j : Nat) id o, ids[j]? = some id → objs[j]? = some o → get h id = some o) :
    Rep (calleeInj ι ids) E w (objs.map (renO (inN ids))).length (enumH 0 (objs.map (renO (inN ids)))) ∧ Ext ι0 h0 E0 w0 (calleeInj ι ids) (enumH 0 (objs.map (renO (inN ids)))) E w := by
  have r0 := callee_rep r hnd hl ho
  refine ⟨r0, x.os, x.tape, x.output, x.size, fun id q hq => ?_, x.old, fun b hb hown => ?_, x.some, x.mark, x.drawn⟩
  · have hid : id < p := by
      rcases Nat.lt_or_ge id p with h | h
      · exact h
      · rw [hf id h] at hq; cases hq
    simp only [calleeInj, hi id hid]
    exact x.inj id q hid hq
  · refine x.own b hb ?_
    obtain ⟨id, o, base, g1, g2⟩ := hown
    rw [get_enum] at g1
    simp only [Nat.zero_le, if_true, Nat.sub_zero, List.getElem?_map, Option.map_eq_some_iff] at g1
    obtain ⟨o0, g1, rfl⟩ := g1
    cases hq : ids[id]? with
    | none => simp [calleeInj, hq] at g2
    | some q =>
      simp only [calleeInj, hq] at g2
      exact ⟨q, o0, base, ho _ _ _ hq g1, g2⟩

theorem finQ_sound {p : Nat} {ι0 : Inj} {h0 : Hp} {E0 : Nat → Prop} {w0 : World} {h : Hp} {n : Nat} (r : Rep ι E w n h) (hf : ∀ id, p ≤ id → ι0 id = none) (ex : Ex p ι0 h0 E0 w0 ι h E w) {x : AV} {v : Value} {K : AV → List Obj → Prop} (hx : Rel E w ι x v) (hq : finQ p h x K) :
    ∃ r hs' ι' E', K r hs' ∧ Rep ι' E' w hs'.length (enumH 0 hs') ∧ Rel E' w ι' r v ∧ Ext ι0 h0 E0 w0 ι' (enumH 0 hs') E' w := by
  have frozen : (frzR h x fun y => match objsOf (dels h (refsT x)) (upTo p) with
    | some hs => (match y.norefT with
      | true => renOs (inN (upTo p)) hs fun hs => K y hs
      | false => False)
    | none => False) → ∃ r hs' ι' E', K r hs' ∧ Rep ι' E' w hs'.length (enumH 0 hs') ∧ Rel E' w ι' r v ∧ Ext ι0 h0 E0 w0 ι' (enumH 0 hs') E' w := by
    intro hq
    obtain ⟨y, g1, g2⟩ := frzR_sound r hx hq
    split at g2
    case h_2 => exact g2.elim
    rename_i hs hhs
    split at g2
    case h_2 => exact g2.elim
    rename_i hb
    rw [renOs_eq] at g2
    obtain ⟨r1, x1⟩ := release r (fun id => id ∈ refsT x) (Sub.dels (refsT x)) (fun id o hg hm => by rw [get_dels, if_pos hm] at hg; cases hg)
    obtain ⟨hl, hget⟩ := objsOf_spec hhs
    obtain ⟨r2, x2⟩ := fin_ext r1 hf (ex.trans x1.ex) (ids := upTo p) (fun i hi => by rw [upTo_get, if_pos hi]) (upTo_nodup p).1 hl hget
    exact ⟨y, _, _, _, g2, r2, g1.norefT hb, x2⟩
  unfold finQ at hq
  split at hq
  case h_2 => exact frozen hq
  rename_i id off
  split at hq
  case h_2 => exact hq.elim
  rename_i hple
  have hple := Nat.le_of_ble_eq_true hple
  split at hq
  case h_2 => exact hq.elim
  rename_i hs hhs
  rw [renOs_eq] at hq
  obtain ⟨hl, hget⟩ := objsOf_spec hhs
  have hnd : (upTo p ++ [id]).Nodup := by
    rw [List.nodup_append]
    refine ⟨(upTo_nodup p).1, by simp, fun a ha b hb => ?_⟩
    simp at hb; subst hb
    have := (upTo_nodup p).2 a ha; omega
  obtain ⟨r2, x2⟩ := fin_ext r hf ex (ids := upTo p ++ [id]) (fun i hi => by rw [List.getElem?_append_left (by rw [upTo_len]; exact hi), upTo_get, if_pos hi]) hnd hl hget
  refine ⟨_, _, _, _, hq, r2, ?_, x2⟩
  cases hx with
  | op _ _ b base hι => exact .op p off b base (by simp [calleeInj, List.getElem?_append, upTo_len, hι])

theorem addN_get : ∀ (r l : List Nat) (i : Nat), i < l.length → (addN l r)[i]? = l[i]?
  | [], l, i, _ => rfl
  | a :: r, l, i, hi => by
    simp only [addN]
    split
    · exact addN_get r l i hi
    · rw [addN_get r _ i (by simp; omega), List.getElem?_append_left hi]
theorem inN_get {ids : List Nat} {id j : Nat} (h : inN ids id = some j) : ids[j]? = some id := by
  have := (idxOf_spec h).2
  simpa using this

theorem finG_sound {p : Nat} {ι0 : Inj} {h0 : Hp} {E0 : Nat → Prop} {w0 : World} {h : Hp} {n : Nat} (r : Rep ι E w n h) (hf : ∀ id, p ≤ id → ι0 id = none) (ex : Ex p ι0 h0 E0 w0 ι h E w) {x : AV} {v : Value} {K : AV → List Obj → Prop} (hx : Rel E w ι x v) (hq : finG p h x K) :
    ∃ r hs' ι' E', K r hs' ∧ Rep ι' E' w hs'.length (enumH 0 hs') ∧ Rel E' w ι' r v ∧ Ext ι0 h0 E0 w0 ι' (enumH 0 hs') E' w := by
  unfold finG at hq
  rw [frcNs_eq] at hq
  split at hq
  case h_2 => exact hq.elim
  rename_i hs hhs
  rw [renOs_eq, frcT_eq] at hq
  obtain ⟨hl, hget⟩ := objsOf_spec hhs
  obtain ⟨r2, x2⟩ := fin_ext r hf ex (ids := addN (upTo p) (refsT x)) (fun i hi => by rw [addN_get _ _ _ (by rw [upTo_len]; exact hi), upTo_get, if_pos hi]) (addN_nodup _ _ (upTo_nodup p).1) hl hget
  refine ⟨_, _, _, _, hq, r2, renT_rel (fun id j q hj hι => ?_) hx, x2⟩
  simp only [calleeInj, inN_get hj]
  exact hι

theorem finB_sound {b : Bool} {p : Nat} {ι0 : Inj} {h0 : Hp} {E0 : Nat → Prop} {w0 : World} {h : Hp} {n : Nat} (r : Rep ι E w n h) (hf : ∀ id, p ≤ id → ι0 id = none) (ex : Ex p ι0 h0 E0 w0 ι h E w) {x : AV} {v : Value} {K : AV → List Obj → Prop} (hx : Rel E w ι x v) (hq : finB b p h x K) :
    ∃ r hs' ι' E', K r hs' ∧ Rep ι' E' w hs'.length (enumH 0 hs') ∧ Rel E' w ι' r v ∧ Ext ι0 h0 E0 w0 ι' (enumH 0 hs') E' w := by
  unfold finB at hq
  split at hq
  case h_1 => exact finQ_sound r hf ex hx hq
  split at hq
  case h_2 => exact finG_sound r hf ex hx hq
  case h_3 => exact finG_sound r hf ex hx hq
  case h_4 => exact finQ_sound r hf ex hx hq
  rename_i id sz off len
  unfold finO at hq
  have ren : ∀ {ids : List Nat} {j : Nat}, ids[j]? = some id → Rel E w (calleeInj ι ids) (.os j sz off len) v := by
    intro ids j hj
    cases hx with
    | osz _ _ _ a => exact .osz _ _ _ _
    | os _ _ _ _ b base cap hι hc hcell => exact .os j sz off len b base cap (by simp only [calleeInj, hj]; exact hι) hc hcell
  split at hq
  · rename_i hple
    have hple := Nat.le_of_ble_eq_true hple
    split at hq
    case h_2 => exact hq.elim
    rename_i hs hhs
    rw [renOs_eq] at hq
    obtain ⟨hl, hget⟩ := objsOf_spec hhs
    have hnd : (upTo p ++ [id]).Nodup := by
      rw [List.nodup_append]
      refine ⟨(upTo_nodup p).1, by simp, fun a ha b hb => ?_⟩
      simp at hb; subst hb
      have := (upTo_nodup p).2 a ha; omega
    obtain ⟨r2, x2⟩ := fin_ext r hf ex (ids := upTo p ++ [id]) (fun i hi => by rw [List.getElem?_append_left (by rw [upTo_len]; exact hi), upTo_get, if_pos hi]) hnd hl hget
    exact ⟨_, _, _, _, hq, r2, ren (by rw [List.getElem?_append_right (by rw [upTo_len]; exact Nat.le_refl _), upTo_len, Nat.sub_self]; rfl), x2⟩
  · rename_i hple
    have hlt : id < p := by
      rcases Nat.lt_or_ge id p with h | h
      · exact h
      · rw [Nat.ble_eq_true_of_le h] at hple; cases hple
    split at hq
    case h_2 => exact hq.elim
    rename_i hs hhs
    rw [renOs_eq] at hq
    obtain ⟨hl, hget⟩ := objsOf_spec hhs
    obtain ⟨r2, x2⟩ := fin_ext r hf ex (ids := upTo p) (fun i hi => by rw [upTo_get, if_pos hi]) (upTo_nodup p).1 hl hget
    exact ⟨_, _, _, _, hq, r2, ren (by rw [upTo_get, if_pos hlt]), x2⟩

theorem get_slotsOf : ∀ (args : List AV) (k t : Nat), get (slotsOf k args) t = if k ≤ t then args[t - k]? else none
  | [], k, t => by simp [slotsOf, get]
  | x :: xs, k, t => by
    simp only [slotsOf, get_cons, get_slotsOf xs (k + 1) t]
    by_cases h1 : k = t
    · subst h1; simp
    · rw [if_neg h1]
      by_cases h2 : k ≤ t
      · rw [if_pos h2, if_pos (by omega), show t - k = (t - (k + 1)) + 1 by omega, List.getElem?_cons_succ]
      · rw [if_neg h2, if_neg (by omega)]

/-- A contract out of the code. -/
theorem ACall.of_code {Γ : Ctx} {f : FuncId} {fn : Func} {c : Code} {args : List AV} {hs : List Obj} {K : AV → List Obj → Prop} (hf : P.funcs[f]? = some fn) (hb : fn.body = some c) (hm : P.follows .mixedOrders = true)
    (hok : okFn P f = true) (hN : Γ.N = fn.ntmps) (hp : Γ.np = hs.length) (ha : Nat.ble args.length fn.ntmps = true)
    (hq : initQ hs args fun σ => codeQ P Γ c σ (retQ P Γ fn.results.toList K)) : ACall P f args hs K := by
  unfold initQ at hq
  rw [frcN_eq, frcH_eq, frcS_eq] at hq
  refine ACall.intro hok fun ι E w vals r hv => ?_
  have ha := Nat.le_of_ble_eq_true ha
  refine calls_of_wp hf hb ?_
  have s0 : Sim fn.ntmps ι E ⟨hs.length, enumH 0 hs, slotsOf 0 args⟩ { tmps := vals ++ Array.replicate (fn.ntmps - vals.size) undef, defers := [] } w := by
    refine ⟨r, fun t x hg => ?_, by simp [← hv.1]; omega, rfl⟩
    simp only [get_slotsOf, Nat.zero_le, if_true, Nat.sub_zero] at hg
    have ht : t < args.length := by
      rcases Nat.lt_or_ge t args.length with h | h
      · exact h
      · rw [List.getElem?_eq_none h] at hg; cases hg
    have ht' : t < vals.size := by rw [← hv.1]; exact ht
    refine ⟨vals[t], by rw [Array.getElem?_append_left ht']; simp [ht'], hv.2 t x _ hg (by simp [ht'])⟩
  have hstart : ∀ id, Γ.np ≤ id → ι id = none := fun id hid => r.fresh id (by rw [← hp]; exact hid)
  have fin : ∀ {σ' : St} {ι' : Inj} {E' : Nat → Prop} {a' : Act} {w' : World}, Sim fn.ntmps ι' E' σ' a' w' → Ex Γ.np ι (enumH 0 hs) E w ι' σ'.h E' w' → (resL P σ' fn.results.toList fun xs => finB Γ.res Γ.np σ'.h (one? xs) K) →
      a'.defers = [] ∧ ∃ v, (results fn a'.tmps).run P w' = .ok v w' ∧ ∃ v' rr hs' ι' E', Ending.returned v = .returned v' ∧ K rr hs' ∧ Rep ι' E' w' hs'.length (enumH 0 hs') ∧ Rel E' w' ι' rr v' ∧ Ext ι (enumH 0 hs) E w ι' (enumH 0 hs') E' w' := by
    intro σ' ι' E' a' w' s' x' hr
    obtain ⟨v, xs, g1, g2, g3⟩ := results_run s' hr
    obtain ⟨rr, hs', ι2, E2, k1, k2, k3, k4⟩ := finB_sound s'.rep hstart x' g2 g3
    exact ⟨s'.defers, v, g1, v, rr, hs', ι2, E2, rfl, k1, k2, k3, k4⟩
  refine wp_mono (codeQ_sound hN hm c s0 hq) ?_
  rintro e a' w' ⟨σ', ι', E', k, s', x'⟩
  cases e with
  | normal => exact fin s' x' k
  | ret => exact fin s' x' k
  | _ => exact k.elim

end
end Go.Vm

