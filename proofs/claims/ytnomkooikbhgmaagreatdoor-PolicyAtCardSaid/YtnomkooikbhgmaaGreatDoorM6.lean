/- Lemmas. -/
import Derived.Deep.LoopGhost
import Derived.OrdersHeld
import Derived.Test.YtnomkooikbhgmaaGreatDoorM5
set_option linter.unusedVariables false
set_option linter.unusedSimpArgs false
set_option maxRecDepth 100000
set_option maxHeartbeats 4000000
namespace Go.Vm
inductive Sched where
 |done
 |one (i:Nat) (first:Bool) (rest:Sched)
 |alt (i:Nat) (a:Sched) (more:Sched)
 |stop
 |wch (i:Nat) (rest:Sched)
inductive Hint where
 |freeze (t:Nat)
 |virt (t sz:Nat)
 |keep (ts:List Nat)
 |virtB (t c sz:Nat)
 |freezeB (t:Nat)
 |asL (t:Nat)
 |renewB (t c:Nat)
 |renewI (id c:Nat)
 |flatS (t:Nat)
 |flatB (t c:Nat)
def ln:List Nat->Sched
 |[]=>.done
 |n::r=>.one (Nat.div n 2) (Nat.beq (Nat.mod n 2) 1) (ln r)
def at1{α:Type}(k:Nat)(x:α)(e:Nat->α)(i:Nat):α:=match Nat.beq i k with
 |true=>x
 |false=>e i
def lz:List Nat->Sched->Sched
 |[],k=>k
 |n::r,k=>.one (Nat.div n 2) (Nat.beq (Nat.mod n 2) 1) (lz r k)
def lq:Nat->Nat->List Nat->Sched
 |_,0,r=>ln r
 |a,n+1,r=>.one a true (lq (Nat.succ a) n r)
def lo(n:Nat):Sched:=lq 0 n []
def lp(n:Nat)(r:List Nat):Sched:=lq 0 n r
def oz:List Nat->Nat->Bool
 |[],_=>false
 |k::r,i=>match Nat.beq i k with
  |true=>true
  |false=>oz r i
def p1(k:Nat)(x:Sched)(e:Nat->Option Sched)(i:Nat):Option Sched:=match Nat.beq i k with
 |true=>some x
 |false=>e i
def pn:Nat->Option Sched:=fun _=>none
def h1(k:Nat)(x:List Hint)(e:Nat->List Hint)(i:Nat):List Hint:=match Nat.beq i k with
 |true=>x
 |false=>e i
def hn:Nat->List Hint:=fun _=>[]
structure Ctx where
 N:Nat
 np:Nat:=0
 own:FuncId->Bool:=fun _=>false
 plan:Nat->Option Sched:=fun _=>none
 hints:Nat->List Hint:=fun _=>[]
 cut:Nat->Bool:=fun _=>false
 res:Bool:=false
 out:Bool:=false
 lend:FuncId->Bool:=fun _=>false
def isQuiet:Op->Bool
 |.move _|.assign _|.pick .. |.load .. |.nilCheck _|.binOp .. |.unOp .. |.fieldAddr .. |.field .. |.indexAddr .. |.index .. |.extract .. |.build .. |.makeFunc .. |.slice _ _ _ _ none=>true
 |.call c=>match c.callee with
  |.builtin .len=>true
  |.builtin .max=>true
  |.builtin .min=>true
  |_=>false
 |.convert s _ _=> !Nat.beq s bytesT
 |_=>false
def St.put(σ:St)(N:Nat)(dst:Option Tmp)(x:AV):St:=
 match dst with
 |none=>σ
 |some d=>match Nat.blt d N with
  |true=>⟨σ.n,σ.h,(d,x)::σ.s⟩
  |false=>σ
def putQ(n:Nat)(h:Hp)(s:List (Nat×AV))(N:Nat)(dst:Option Tmp)(x:AV)(K:St->Prop):Prop:=
 match dst with
 |none=>K ⟨n,h,s⟩
 |some d=>match Nat.blt d N with
  |true=>frc x fun y=>K ⟨n,h,(d,y)::s⟩
  |false=>K ⟨n,h,s⟩
theorem putQ_eq(n:Nat)(h:Hp)(s:List (Nat×AV))(N:Nat)(dst:Option Tmp)(x:AV)(K:St->Prop):putQ n h s N dst x K=K (St.put ⟨n,h,s⟩ N dst x):=by
 unfold putQ St.put;cases dst with
 |none=>rfl
 |some d=>simp only[frc_eq];cases Nat.blt d N<;>rfl
def DS:Nat:=1000000
def defQ(P:Program)(n:Nat)(h:Hp)(s:List (Nat×AV))(c:Call)(K:St->Prop):Prop:=
 match c.callee with
 |.builtin .delete=>(match c.argTypes.toList,c.args.toList with
  |[t,_],[x,k]=>(match mapT P t,St.ev ⟨n,h,s⟩ x,keyS (St.ev ⟨n,h,s⟩ k),get s DS with
   |some _,.mp id,some str,none=>K ⟨n,h,(DS,.dfr id str)::s⟩
   |_,_,_,_=>False)
  |_,_=>False)
 |_=>False
def execQ(P:Program)(Γ:Ctx)(o:Oper)(σ:St)(K:St->Prop):Prop:=
 match σ with
 |⟨n,h,s⟩=>match isQuiet o.op with
  |true=>qop P h (St.ev ⟨n,h,s⟩) o.op fun x=>putQ n h s Γ.N o.dst x K
  |false=>match o.op with
   |.call c=>(match c.callee with
    |.value f=>callQ P Γ.own Γ.lend n h (St.ev ⟨n,h,s⟩ f) (c.args.toList.map (St.ev ⟨n,h,s⟩)) fun x n h=>frcN n fun n=>frcH h fun h=>putQ n h s Γ.N o.dst x K
    |_=>eop P n h (St.ev ⟨n,h,s⟩) (.call c) fun x n h=>frcN n fun n=>frcH h fun h=>putQ n h s Γ.N o.dst x K)
   |.defer c=>(match o.dst with
    |none=>defQ P n h s c K
    |some _=>False)
   |op=>eop P n h (St.ev ⟨n,h,s⟩) op fun x n h=>frcN n fun n=>frcH h fun h=>putQ n h s Γ.N o.dst x K
def opStep(P:Program)(Γ:Ctx)(ops:List Oper)(o:Oper)(σ:St)(K:St->Prop):Prop:=
 match o.guard with
 |none=>execQ P Γ o σ K
 |some (j,want)=>match ops[j]? with
  |none=>False
  |some oj=>match oj.dst with
   |none=>False
   |some t=>match σ with
    |⟨n,h,s⟩=>match get s t with
     |some (.v (.bool true))=>(match want with
      |true=>execQ P Γ o ⟨n,h,s⟩ K
      |false=>putQ n h s Γ.N o.dst (.tup []) K)
     |some (.v (.bool false))=>(match want with
      |false=>execQ P Γ o ⟨n,h,s⟩ K
      |true=>putQ n h s Γ.N o.dst (.tup []) K)
     |some (.sb b)=>(match want with
      |true=>Br b (execQ P Γ o ⟨n,h,(t,.v (.bool true))::s⟩ K) (putQ n h ((t,.v (.bool false))::s) Γ.N o.dst (.tup []) K)
      |false=>Br b (putQ n h ((t,.v (.bool true))::s) Γ.N o.dst (.tup []) K) (execQ P Γ o ⟨n,h,(t,.v (.bool false))::s⟩ K))
     |some (.tup [])=>putQ n h s Γ.N o.dst (.tup []) K
     |_=>False
def opsQ(P:Program)(Γ:Ctx)(ops:List Oper):List Oper->St->(St->Prop)->Prop
 |[],σ,K=>K σ
 |o::rest,σ,K=>opStep P Γ ops o σ fun σ'=>opsQ P Γ ops rest σ' K
def touchQ(σ:St)(o:Oper):Option (List Nat):=
 match o.guard with
 |some _=>none
 |none=>match o.op with
  |.alloc _=>some []
  |.box _ _=>some []
  |.buildSlice _ _ _=>some []
  |.call c=>(match c.callee with
   |.value f=>some (touchC σ.h (σ.ev f) (c.args.toList.map σ.ev))
   |_=>none)
  |_=>none
def waitsF(ops:Array Oper):Nat->Nat->Nat->Bool
 |0,_,_=>false
 |f+1,j,i=>match ops[j]? with
  |some o=>o.after.toList.any fun e=>Region.binds .any e&&(Nat.beq e.on i||waitsF ops f e.on i)
  |none=>false
def hasB(h:Hp)(id:Nat):Bool:=match get h id with
 |some _=>true
 |none=>false
def apartB(h:Hp)(id:Nat):List Nat->Bool
 |[]=>true
 |x::r=> !(Nat.beq x id)&&(hasB h x&&apartB h id r)
def watchB(ops:List Oper)(j:Nat)(σ:St)(o:Oper):List (Nat×Nat)->Bool
 |[]=>true
 |(i,id)::r=>(isQuiet o.op||(waitsF ops.toArray ops.toArray.size j i||(hasB σ.h id&&(match touchQ σ o with
   |some T=>apartB σ.h id T
   |none=>false))))&&watchB ops j σ o r
def planQ(P:Program)(Γ:Ctx)(ops:List Oper)(Z:List (Nat×Nat)):Sched->St->(St->Prop)->Prop
 |.done,σ,K=>K σ
 |.one i _ rest,σ,K=>(match ops[i]? with
  |some o=>match watchB ops i σ o Z with
   |true=>opStep P Γ ops o σ fun σ'=>planQ P Γ ops Z rest σ' K
   |false=>False
  |none=>False)
 |.alt i a more,σ,K=>(match ops[i]? with
  |some o=>(match watchB ops i σ o Z with
   |true=>(opStep P Γ ops o σ fun σ'=>planQ P Γ ops Z a σ' K)/\planQ P Γ ops Z more σ K
   |false=>False)
  |none=>False)
 |.stop,_,_=>True
 |.wch i rest,σ,K=>(match ops[i]? with
  |some o=>(match o.op,o.guard with
   |.load _ x,none=>(match σ.ev x with
    |.fp _=>opStep P Γ ops o σ fun σ'=>planQ P Γ ops Z rest σ' K
    |.op id _=>opStep P Γ ops o σ fun σ'=>planQ P Γ ops ((i,id)::Z) rest σ' K
    |.ep id _ _ _=>opStep P Γ ops o σ fun σ'=>planQ P Γ ops ((i,id)::Z) rest σ' K
    |_=>False)
   |_,_=>False)
  |none=>False)
def isStill(o:Op):Bool:= !isLd o
def isMild(own:FuncId->Bool):Op->Bool
 |.alloc _=>true
 |.box _ _=>true
 |.buildSlice _ _ _=>true
 |.call c=>match c.callee with
  |.value (.func f)=> !own f
  |_=>false
 |_=>false
def Sched.depth:Sched->Nat
 |.done=>0
 |.one _ _ r=>r.depth+1
 |.alt _ a _=>a.depth+1
 |.stop=>0
 |.wch _ r=>r.depth+1
def Sched.heads:Sched->List Nat
 |.alt i _ more=>i::more.heads
 |_=>[]
def okPlan(own:FuncId->Bool)(ops:Array Oper):Option Nat->Sched->Array Bool->Bool
 |none,.done,L=>(Region.ready .any ops L).isEmpty
 |none,.one i true rest,L=>(Region.ready .any ops L).contains i&&(Region.free .any ops L i&&(((ops[i]?).map fun o=>isQuiet o.op).getD false&&
   ((((ops[i]?).map fun o=>isStill o.op).getD false||(List.range ops.size).all fun j=>L.getD j true||(((ops[j]?).map fun o=>isQuiet o.op||isMild own o.op).getD true||waitsF ops ops.size j i))&&okPlan own ops none rest (L.setIfInBounds i true))))
 |none,.one i false rest,L=>decide (Region.ready .any ops L=[i])&&okPlan own ops none rest (L.setIfInBounds i true)
 |none,.alt i a more,L=>decide (Region.ready .any ops L=i::more.heads)&&(okPlan own ops none a (L.setIfInBounds i true)&&okPlan own ops (some a.depth) more L)
 |some d,.alt i a more,L=>a.depth==d&&(okPlan own ops none a (L.setIfInBounds i true)&&okPlan own ops (some d) more L)
 |some _,.stop,_=>true
 |none,.wch i rest,L=>(Region.ready .any ops L).contains i&&(Region.free .any ops L i&&okPlan own ops none rest (L.setIfInBounds i true))
 |_,_,_=>false
def planOk(own:FuncId->Bool)(ops:Array Oper)(s:Sched):Bool:=Region.noSelect ops&&(s.depth==ops.size&&okPlan own ops none s (Array.replicate ops.size false))
def keepQ(s:List (Nat×AV)):List Nat->(List (Nat×AV)->Prop)->Prop
 |[],K=>K []
 |t::ts,K=>match get s t with
  |some x=>frc x fun x=>keepQ s ts fun r=>K ((t,x)::r)
  |none=>keepQ s ts K
def renK(n:Nat)(h:Hp)(id c:Nat)(K:Nat->Hp->Prop):Prop:=
 match get h id with
 |some (.box cs)=>(match cs[c]? with
  |some (.os i sz off len)=>(match get h i with
   |some (.arr sz' xs)=>frcL (cs.set c (.os n sz off len)) fun ds=>frcH (del (del h i) id) fun h'=>frcN (n+1) fun n1=>K n1 ((n,.arr sz' xs)::(id,.box ds)::h')
   |_=>False)
  |_=>False)
 |_=>False
def hintQ(σ:St):List Hint->(St->Prop)->Prop
 |[],K=>K σ
 |.freeze t::r,K=>(match σ with
  |⟨n,h,s⟩=>match Nat.beq t DS,get s t with
   |false,some x=>frzA h x fun y=>frc y fun y=>frcH (dels h (refsA x)) fun h'=>hintQ ⟨n,h',(t,y)::s⟩ r K
   |_,_=>False)
 |.virt t sz::r,K=>(match σ with
  |⟨n,h,s⟩=>match get s t with
   |some .nils=>frcN (n+1) fun n1=>hintQ ⟨n1,(n,.arr sz [])::h,(t,.os n sz 0 0)::s⟩ r K
   |some (.os _ _ _ _)=>hintQ ⟨n,h,s⟩ r K
   |_=>False)
 |.keep ts::r,K=>(match σ with
  |⟨n,h,s⟩=>keepQ s (DS::ts) fun s'=>hintQ ⟨n,h,s'⟩ r K)
 |.virtB t c sz::r,K=>(match σ with
  |⟨n,h,s⟩=>match get s t with
   |some (.op id 0)=>(match get h id with
    |some (.box cs)=>(match cs[c]? with
     |some .nils=>frcL (cs.set c (.os n sz 0 0)) fun ds=>frcH (del h id) fun h'=>frcN (n+1) fun n1=>hintQ ⟨n1,(n,.arr sz [])::(id,.box ds)::h',s⟩ r K
     |some (.os _ _ _ _)=>hintQ ⟨n,h,s⟩ r K
     |_=>False)
    |_=>False)
   |_=>False)
 |.freezeB t::r,K=>(match σ with
  |⟨n,h,s⟩=>match get s t with
   |some (.op id 0)=>(match get h id with
    |some (.box cs)=>(match elemN id (refsL cs)with
     |false=>frzL h cs fun ds=>frcL ds fun ds=>frcH (dels (del h id) (refsL cs)) fun h'=>hintQ ⟨n,(id,.box ds)::h',s⟩ r K
     |true=>False)
    |_=>False)
   |_=>False)
 |.asL t::r,K=>(match σ with
  |⟨n,h,s⟩=>match get s t with
   |some .nils=>hintQ ⟨n,h,(t,.lst [])::s⟩ r K
   |some (.lst _)=>hintQ ⟨n,h,s⟩ r K
   |_=>False)
 |.renewB t c::r,K=>(match σ with
  |⟨n,h,s⟩=>match get s t with
   |some (.op id 0)=>renK n h id c fun n1 h1=>hintQ ⟨n1,h1,s⟩ r K
   |_=>False)
 |.renewI id c::r,K=>(match σ with
  |⟨n,h,s⟩=>renK n h id c fun n1 h1=>hintQ ⟨n1,h1,s⟩ r K)
 |.flatS t::r,K=>(match σ with
  |⟨n,h,s⟩=>match get s t with
   |some x=>flatK h x fun h'=>hintQ ⟨n,h',s⟩ r K
   |none=>False)
 |.flatB t c::r,K=>(match σ with
  |⟨n,h,s⟩=>match get s t with
   |some (.op id 0)=>(match get h id with
    |some (.box cs)=>(match cs[c]? with
     |some x=>flatK h x fun h'=>hintQ ⟨n,h',s⟩ r K
     |none=>False)
    |_=>False)
   |_=>False)
def regionQ(P:Program)(Γ:Ctx)(id:Nat)(ops:List Oper)(draw:Bool)(σ:St)(K:St->Prop):Prop:=
 hintQ σ (Γ.hints id) fun σ=>match draw with
  |false=>opsQ P Γ ops ops σ K
  |true=>match Γ.plan id with
   |some s=>Ob (planOk Γ.own ops.toArray s=true) (planQ P Γ ops [] s σ K)
   |none=>False
def sren0(ρ:Nat->Option Nat)(x:AV):Option AV:=
 match x with
 |.op id off=>(match ρ id with
  |some j=>some (.op j off)
  |none=>none)
 |.ep id sz i off=>(match ρ id with
  |some j=>some (.ep j sz i off)
  |none=>none)
 |.os id sz off len=>(match ρ id with
  |some j=>some (.os j sz off len)
  |none=>none)
 |.mp id=>(match ρ id with
  |some j=>some (.mp j)
  |none=>none)
 |.dfr id s=>(match ρ id with
  |some j=>some (.dfr j s)
  |none=>none)
 |.agg _=>none
 |.tup _=>none
 |.fn f [] []=>some (.fn f [] [])
 |.fn _ _ _=>none
 |x=>some x
def sren0L(ρ:Nat->Option Nat):List AV->Option (List AV)
 |[]=>some []
 |x::xs=>match sren0 ρ x,sren0L ρ xs with
  |some y,some ys=>some (y::ys)
  |_,_=>none
def sren1(ρ:Nat->Option Nat)(x:AV):Option AV:=
 match x with
 |.fn f a b=>(match sren0L ρ a,sren0L ρ b with
  |some a',some b'=>some (.fn f a' b')
  |_,_=>none)
 |x=>sren0 ρ x
def srenL(ρ:Nat->Option Nat):List AV->Option (List AV)
 |[]=>some []
 |x::xs=>match sren1 ρ x,srenL ρ xs with
  |some y,some ys=>some (y::ys)
  |_,_=>none
def srenA(ρ:Nat->Option Nat)(x:AV):Option AV:=
 match x with
 |.agg cs=>(match srenL ρ cs with
  |some ds=>some (.agg ds)
  |none=>none)
 |.fn f a b=>(match srenL ρ a,srenL ρ b with
  |some a',some b'=>some (.fn f a' b')
  |_,_=>none)
 |x=>sren1 ρ x
def srenO(ρ:Nat->Option Nat):Obj->Option Obj
 |.box cs=>(match srenL ρ cs with
  |some ds=>some (.box ds)
  |none=>none)
 |.arr sz xs=>some (.arr sz xs)
 |.spc (.it mid τ L l)=>(match mid with
  |some i=>(match ρ i with
   |some j=>some (.spc (.it (some j) τ L l))
   |none=>none)
  |none=>none)
 |.spc s=>some (.spc s)
def LeS(ρ:List (Nat×Nat)):List (Nat×AV)->St->Prop
 |[],_=>True
 |(t,x)::r,σ=>(match srenA (get ρ) x with
  |some y=>get σ.s t=some y
  |none=>False)/\LeS ρ r σ
def LeH(ρ:List (Nat×Nat)):Hp->St->Prop
 |[],_=>True
 |(id,o)::r,σ=>(match get ρ id,srenO (get ρ) o with
  |some j,some o'=>get σ.h j=some o'
  |_,_=>False)/\LeH ρ r σ
def injB:List (Nat×Nat)->Bool
 |[]=>true
 |(k,v)::r=>r.all (fun p=> !(Nat.beq p.1 k)&& !(Nat.beq p.2 v))&&injB r
def belowB(n:Nat):List (Nat×Nat)->Bool
 |[]=>true
 |(k,_)::r=>Nat.blt k n&&belowB n r
def fixB(ρ:List (Nat×Nat)):Nat->Bool
 |0=>true
 |k+1=>(match get ρ k with
  |some j=>Nat.beq j k
  |none=>false)&&fixB ρ k
def defB(s σ:List (Nat×AV)):Bool:=match get s DS,get σ DS with
 |none,some _=>false
 |_,_=>true
def Le(p:Nat)(s σ:St):Prop:=∃ρ:List (Nat×Nat),(injB ρ&&(belowB s.n ρ&&(fixB ρ p&&defB s.s σ.s)))=true/\LeS ρ s.s σ/\LeH ρ s.h σ
structure Lp0 (p:Nat) (body:St->(Exit->St->Prop)->Prop) (σ:St) (Q:Exit->St->Prop):Prop where
 out:∃(G:Type) (S:G->St) (Inv:G->Prop) (μ:G->Nat),(∃g,Inv g/\Le p (S g) σ)/\
  ∀g,Inv g->body (S g) fun e σ'=>match e with
   |.normal=>∃g',Inv g'/\μ g'<μ g/\Le p (S g') σ'
   |e=>Q e σ'
structure Stp (p:Prop):Prop where
 out:p
def LpN(p:Nat)(body:St->(Exit->St->Prop)->Prop)(Q:Exit->St->Prop):Nat->St->Prop
 |0,σ=>Lp0 p body σ Q
 |n+1,σ=>Lp0 p body σ Q\/body σ fun e σ'=>match e with
   |.normal=>Stp (LpN p body Q n σ')
   |e=>Q e σ'
structure Lp (p:Nat) (body:St->(Exit->St->Prop)->Prop) (σ:St) (Q:Exit->St->Prop):Prop where
 out:∃n,LpN p body Q n σ
structure Jn (p:Nat) (body:(St->Prop)->Prop) (K:St->Prop):Prop where
 out:∃(G:Type) (S:G->St) (Inv:G->Prop),body (fun σ'=>∃g,Inv g/\Le p (S g) σ')/\∀g,Inv g->K (S g)
def firstR:Code->Option Nat
 |.region id _ _=>some id
 |.seq a _=>firstR a
 |.block _ c=>firstR c
 |.loop c=>firstR c
 |_=>none
def cutAt(Γ:Ctx)(c:Code):Bool:=
 match firstR c with
 |some id=>Γ.cut id
 |none=>false
def codeQ(P:Program)(Γ:Ctx):Code->St->(Exit->St->Prop)->Prop
 |.skip,σ,Q=>Q .normal σ
 |.region id ops draw,σ,Q=>regionQ P Γ id ops.toList draw σ (Q .normal)
 |.seq a b,σ,Q=>(match cutAt Γ b with
  |true=>Jn Γ.np (fun K=>codeQ P Γ a σ fun e σ'=>match e with
   |.normal=>K σ'
   |e=>Q e σ') fun σ'=>codeQ P Γ b σ' Q
  |false=>codeQ P Γ a σ fun e σ'=>match e with
   |.normal=>codeQ P Γ b σ' Q
   |e=>Q e σ')
 |.cond c x y,σ,Q=>(match σ.ev c with
  |.v (.bool true)=>codeQ P Γ x σ Q
  |.v (.bool false)=>codeQ P Γ y σ Q
  |.sb b=>Br b (codeQ P Γ x σ Q) (codeQ P Γ y σ Q)
  |_=>False)
 |.block id c,σ,Q=>codeQ P Γ c σ fun e σ'=>match e with
  |.exit i=>(match Nat.beq i id with
   |true=>Q .normal σ'
   |false=>Q (.exit i) σ')
  |e=>Q e σ'
 |.loop c,σ,Q=>Lp Γ.np (codeQ P Γ c) σ Q
 |.exit id,σ,Q=>Q (.exit id) σ
 |.ret,σ,Q=>Q .ret σ
 |.label _,σ,Q=>Q .normal σ
 |_,_,_=>False
def resL(P:Program)(σ:St):List ResultVar->(List AV->Prop)->Prop
 |[],K=>K []
 |.tmp t::r,K=>(match Nat.beq t DS,get σ.s t with
  |false,some x=>resL P σ r fun xs=>K (x::xs)
  |_,_=>False)
 |.cell a t::r,K=>(match Nat.beq a DS,get σ.s a with
  |false,some X=>ldQ P σ.h t X fun x=>resL P σ r fun xs=>K (x::xs)
  |_,_=>False)
def frzR(h:Hp)(x:AV)(K:AV->Prop):Prop:=
 match x with
 |.tup vs=>frzAL h vs fun vs'=>K (.tup vs')
 |x=>frzA h x K
def AV.norefT:AV->Bool
 |.tup vs=>vs.all AV.noref
 |x=>x.noref
def refsT:AV->List Nat
 |.tup vs=>refsAL vs
 |x=>refsA x
def upTo:Nat->List Nat
 |0=>[]
 |k+1=>upTo k++[k]
def finO(p:Nat)(h:Hp)(id sz off len:Nat)(K:AV->List Obj->Prop):Prop:=
 match Nat.ble p id with
 |true=>(match objsOf h (upTo p++[id])with
  |some hs=>renOs (inN (upTo p++[id])) hs fun hs=>K (.os p sz off len) hs
  |none=>False)
 |false=>(match objsOf h (upTo p)with
  |some hs=>renOs (inN (upTo p)) hs fun hs=>K (.os id sz off len) hs
  |none=>False)
def finG(p:Nat)(h:Hp)(x:AV)(K:AV->List Obj->Prop):Prop:=
 frcNs (addN (upTo p) (refsT x)) fun ids=>match objsOf h ids with
 |some hs=>renOs (inN ids) hs fun hs=>frcT (renT (inN ids) x) fun y=>K y hs
 |none=>False
def finQ(p:Nat)(h:Hp)(x:AV)(K:AV->List Obj->Prop):Prop:=
 match x with
 |.op id off=>(match Nat.ble p id with
  |true=>(match objsOf h (upTo p++[id])with
   |some hs=>renOs (inN (upTo p++[id])) hs fun hs=>K (.op p off) hs
   |none=>False)
  |false=>False)
 |x=>frzR h x fun y=>match objsOf (dels h (refsT x)) (upTo p)with
  |some hs=>(match y.norefT with
   |true=>renOs (inN (upTo p)) hs fun hs=>K y hs
   |false=>False)
  |none=>False
def finB(b:Bool)(p:Nat)(h:Hp)(x:AV)(K:AV->List Obj->Prop):Prop:=
 match b with
 |false=>finQ p h x K
 |true=>match x with
  |.os id sz off len=>finO p h id sz off len K
  |.agg cs=>finG p h (.agg cs) K
  |.tup vs=>finG p h (.tup vs) K
  |x=>finQ p h x K
def objsE(h:Hp):List Nat->List Obj
 |[]=>[]
 |i::l=>(match get h i with
  |some o=>o
  |none=>.box [])::objsE h l
def boxRefs(h:Hp):List Nat->List Nat
 |[]=>[]
 |i::l=>match get h i with
  |some (.box cs)=>refsL cs++boxRefs h l
  |_=>boxRefs h l
def finG2(p:Nat)(h:Hp)(x:AV)(K:AV->List Obj->Prop):Prop:=
 frcNs (addN (addN (upTo p) (boxRefs h (upTo p))) (refsT x++boxRefs h (refsT x))) fun ids=>renOs (inN ids) (objsE h ids) fun hs=>frcT (renT (inN ids) x) fun y=>K y hs
def finC(o b:Bool)(p:Nat)(h:Hp)(x:AV)(K:AV->List Obj->Prop):Prop:=
 match o with
 |true=>finG2 p h x K
 |false=>finB b p h x K
def one?:List AV->AV
 |[x]=>x
 |xs=>.tup xs
def endQ(P:Program)(Γ:Ctx)(rs:List ResultVar)(K:AV->List Obj->Prop)(σ:St):Prop:=
 match get σ.s DS with
 |none=>resL P σ rs fun xs=>finC Γ.out Γ.res Γ.np σ.h (one? xs) K
 |some (.dfr id s)=>(match mapOf (get σ.h id)with
  |some f=>Mu f (delM f (.string s)) fun f'=>frcH (set σ.h id (.spc (.m f'))) fun h'=>resL P ⟨σ.n,h',σ.s⟩ rs fun xs=>finC Γ.out Γ.res Γ.np h' (one? xs) K
  |_=>False)
 |_=>False
def retQ(P:Program)(Γ:Ctx)(rs:List ResultVar)(K:AV->List Obj->Prop):Exit->St->Prop
 |.normal,σ=>endQ P Γ rs K σ
 |.ret,σ=>endQ P Γ rs K σ
 |_,_=>False
def slotsOf:Nat->List AV->List (Nat×AV)
 |_,[]=>[]
 |k,x::xs=>(k,x)::slotsOf (k+1) xs
def initQ(hs:List Obj)(args:List AV)(K:St->Prop):Prop:=frcN hs.length fun n=>frcH (enumH 0 hs) fun h=>frcS (slotsOf 0 args) fun s=>K ⟨n,h,s⟩
def Pur(P:Program){α:Type}(s:Sem α):Prop:=∀w v w',s.run P w=.ok v w'->w'=w/\∀w2,s.run P w2=.ok v w2
section
variable {P:Program} {α β:Type}
theorem Pur.pure(a:α):Pur P (Pure.pure a:Sem α):=fun w v w' h=>by simp at h;obtain⟨rfl,rfl⟩:=h;exact⟨rfl,fun w2=>by simp⟩
theorem Pur.halt(x:Halt):Pur P (.halt x:Sem α):=fun w v w' h=>by simp at h
theorem Pur.program:Pur P Go.program:=fun w v w' h=>by
 rw[run_program]at h;cases h;exact⟨rfl,fun w2=>run_program _ _⟩
theorem Pur.bind{x:Sem α}{f:α->Sem β}(hx:Pur P x)(hf:∀a,Pur P (f a)):Pur P (x>>=f):=fun w v w' h=>by
 rw[Sem.run_bind]at h;cases hr:x.run P w with
 |halt a b=>rw[hr]at h;cases h
 |ok a w1=>
  rw[hr]at h;obtain⟨rfl,h1⟩:=hx w a w1 hr;obtain⟨rfl,h2⟩:=hf a _ v w' h;exact⟨rfl,fun w2=>by rw[Sem.run_bind,h1 w2];exact h2 w2⟩
theorem Pur.never{x:Sem α}(h:∀w v w',x.run P w≠.ok v w'):Pur P x:=fun w v w' hh=>absurd hh (h w v w')
theorem typeInfo_pur(t:TypeId):Pur P (typeInfo t):=by
 unfold typeInfo;refine Pur.bind Pur.program fun p=>?_;split
 ·exact Pur.pure _
 ·exact Pur.halt _
theorem underlying_pur(t:TypeId):Pur P (underlying t):=by
 unfold underlying;refine Pur.bind Pur.program fun p=>?_;split
 ·exact Pur.pure _
 ·exact Pur.halt _
theorem sizeOf_pur(t:TypeId):Pur P (sizeOf t):=Pur.bind (typeInfo_pur t) fun _=>Pur.pure _
def Adds(P:Program){α:Type}(s:Sem α):Prop:=∀w v w',s.run P w=.ok v w'->Same w w'
theorem Pur.adds{s:Sem α}(h:Pur P s):Adds P s:=fun w v w' hr=>by rw[(h w v w' hr).1];exact .refl
theorem Adds.bind{x:Sem α}{f:α->Sem β}(hx:Adds P x)(hf:∀a,Adds P (f a)):Adds P (x>>=f):=fun w v w' h=>by
 rw[Sem.run_bind]at h;cases hr:x.run P w with
 |halt a b=>rw[hr]at h;cases h
 |ok a w1=>rw[hr]at h;exact(hx w a w1 hr).trans (hf a _ v w' h)
theorem Adds.newObj(o:Go.Obj):Adds P (newObj o):=fun w v w' h=>by
 rw[run_newObj]at h;cases h;intro b hb;exact Array.getElem?_push_lt hb▸(bH hb).symm▸rfl
theorem Adds.pure(a:α):Adds P (Pure.pure a:Sem α):=(Pur.pure a).adds
theorem zeroValue_pur(t:TypeId):Pur P (zeroValue t):=by
 unfold zeroValue;refine Pur.bind (typeInfo_pur t) fun i=>?_;split
 ·exact Pur.pure _
 ·exact Pur.halt _
theorem newVar_adds(t:TypeId)(v:Value):Adds P (newVar t v):=Adds.bind (Adds.newObj _) fun _=>.pure _
theorem alloc_adds(t:TypeId):Adds P (Instr.alloc t true (.tuple #[])):=Adds.bind (zeroValue_pur t).adds fun _=>Adds.bind (newVar_adds _ _) fun _=>.pure _
theorem box_adds(t:TypeId)(v:Value):Adds P (Instr.box t v):=Adds.bind (newVar_adds _ _) fun _=>.pure _
theorem buildSlice_adds(t:TypeId)(n:Nat)(parts:Array (Nat×Value)):Adds P (Instr.buildSlice t n parts):=by
 unfold Instr.buildSlice;refine Adds.bind (underlying_pur t).adds fun d=>?_;cases d<;>try exact(Pur.halt _).adds
 refine Adds.bind (sizeOf_pur _).adds fun m=>?_
 extract_lets jp2 jp1
 have h2:∀z,Adds P (jp2 z):=by
  intro z;simp only[jp2];split
  ·exact Adds.bind (Adds.bind (Adds.newObj _) fun _=>.pure _) fun _=>.pure _
  ·exact(Pur.halt _).adds
 have h1:∀r,Adds P (jp1 r):=by
  intro r;simp only[jp1];split
  ·exact Adds.bind (.pure _) fun _=>h2 _
  ·exact Adds.bind (zeroValue_pur _).adds fun _=>Adds.bind (.pure _) fun _=>h2 _
 split
 ·exact Adds.bind (Pur.halt _).adds fun u=>h1 ()
 ·exact h1 ()
end
end Go.Vm
