/- Lemmas. -/
import Derived.Deep.LoopGhost
import Derived.OrdersHeld
import Derived.Test.YtgicddadddhonaaGreatDoorM5
set_option linter.unusedVariables false
set_option linter.unusedSimpArgs false
set_option maxRecDepth 100000
set_option maxHeartbeats 4000000
namespace Go.Vm
inductive Sched where
 |done
 |one (i:Nat) (first:Bool) (rest:Sched)
 |alt (i:Nat) (a:Sched) (more:Sched)
 |stop
 |wch (i:Nat) (rest:Sched)
inductive Hint where
 |freeze (t:Nat)
 |virt (t sz:Nat)
 |keep (ts:List Nat)
 |virtB (t c sz:Nat)
 |freezeB (t:Nat)
 |asL (t:Nat)
 |renewB (t c:Nat)
 |renewI (id c:Nat)
 |flatS (t:Nat)
 |flatB (t c:Nat)
def ln:List Nat->Sched
 |[]=>.done
 |n::r=>.one (Nat.div n 2) (Nat.beq (Nat.mod n 2) 1) (ln r)
def at1{α:Type}(k:Nat)(x:α)(e:Nat->α)(i:Nat):α:=match Nat.beq i k with
 |true=>x
 |false=>e i
def lz:List Nat->Sched->Sched
 |[],k=>k
 |n::r,k=>.one (Nat.div n 2) (Nat.beq (Nat.mod n 2) 1) (lz r k)
def lq:Nat->Nat->List Nat->Sched
 |_,0,r=>ln r
 |a,n+1,r=>.one a true (lq (Nat.succ a) n r)
def lo(n:Nat):Sched:=lq 0 n []
def lp(n:Nat)(r:List Nat):Sched:=lq 0 n r
def oz:List Nat->Nat->Bool
 |[],_=>false
 |k::r,i=>match Nat.beq i k with
  |true=>true
  |false=>oz r i
def p1(k:Nat)(x:Sched)(e:Nat->Option Sched)(i:Nat):Option Sched:=match Nat.beq i k with
 |true=>some x
 |false=>e i
def pn:Nat->Option Sched:=fun _=>none
def h1(k:Nat)(x:List Hint)(e:Nat->List Hint)(i:Nat):List Hint:=match Nat.beq i k with
 |true=>x
 |false=>e i
def hn:Nat->List Hint:=fun _=>[]
structure Ctx where
 N:Nat
 np:Nat:=0
 own:FuncId->Bool:=fun _=>false
 plan:Nat->Option Sched:=fun _=>none
 hints:Nat->List Hint:=fun _=>[]
 cut:Nat->Bool:=fun _=>false
 res:Bool:=false
 out:Bool:=false
 lend:FuncId->Bool:=fun _=>false
def kW:Op->Bool
 |.move _|.assign _|.pick .. |.load .. |.nilCheck _|.binOp .. |.unOp .. |.fieldAddr .. |.field .. |.indexAddr .. |.index .. |.extract .. |.build .. |.makeFunc .. |.slice _ _ _ _ none=>true
 |.call c=>match c.callee with
  |.builtin .len=>true
  |.builtin .max=>true
  |.builtin .min=>true
  |_=>false
 |.convert s _ _=> !Nat.beq s aLi
 |_=>false
def St.put(σ:St)(N:Nat)(dst:Option Tmp)(x:AV):St:=
 match dst with
 |none=>σ
 |some d=>match Nat.blt d N with
  |true=>⟨σ.n,σ.h,(d,x)::σ.s⟩
  |false=>σ
def Kb(n:Nat)(h:Hp)(s:List (Nat×AV))(N:Nat)(dst:Option Tmp)(x:AV)(K:St->Prop):Prop:=
 match dst with
 |none=>K ⟨n,h,s⟩
 |some d=>match Nat.blt d N with
  |true=>frc x fun y=>K ⟨n,h,(d,y)::s⟩
  |false=>K ⟨n,h,s⟩
theorem H3(n:Nat)(h:Hp)(s:List (Nat×AV))(N:Nat)(dst:Option Tmp)(x:AV)(K:St->Prop):Kb n h s N dst x K=K (St.put ⟨n,h,s⟩ N dst x):=by
 unfold Kb St.put;cases dst with
 |none=>rfl
 |some d=>simp only[Fi];cases Nat.blt d N<;>rfl
def DS:Nat:=1000000
def aSA(P:Program)(n:Nat)(h:Hp)(s:List (Nat×AV))(c:Call)(K:St->Prop):Prop:=
 match c.callee with
 |.builtin .delete=>(match c.argTypes.toList,c.args.toList with
  |[t,_],[x,k]=>(match Jz P t,St.ev ⟨n,h,s⟩ x,Y0 (St.ev ⟨n,h,s⟩ k),get s DS with
   |some _,.mp id,some str,none=>K ⟨n,h,(DS,.dfr id str)::s⟩
   |_,_,_,_=>False)
  |_,_=>False)
 |_=>False
def vD(P:Program)(Γ:Ctx)(o:Oper)(σ:St)(K:St->Prop):Prop:=
 match σ with
 |⟨n,h,s⟩=>match kW o.op with
  |true=>qop P h (St.ev ⟨n,h,s⟩) o.op fun x=>Kb n h s Γ.N o.dst x K
  |false=>match o.op with
   |.call c=>(match c.callee with
    |.value f=>aAB P Γ.own Γ.lend n h (St.ev ⟨n,h,s⟩ f) (c.args.toList.map (St.ev ⟨n,h,s⟩)) fun x n h=>nB n fun n=>oV h fun h=>Kb n h s Γ.N o.dst x K
    |_=>eop P n h (St.ev ⟨n,h,s⟩) (.call c) fun x n h=>nB n fun n=>oV h fun h=>Kb n h s Γ.N o.dst x K)
   |.defer c=>(match o.dst with
    |none=>aSA P n h s c K
    |some _=>False)
   |op=>eop P n h (St.ev ⟨n,h,s⟩) op fun x n h=>nB n fun n=>oV h fun h=>Kb n h s Γ.N o.dst x K
def tO(P:Program)(Γ:Ctx)(ops:List Oper)(o:Oper)(σ:St)(K:St->Prop):Prop:=
 match o.guard with
 |none=>vD P Γ o σ K
 |some (j,want)=>match ops[j]? with
  |none=>False
  |some oj=>match oj.dst with
   |none=>False
   |some t=>match σ with
    |⟨n,h,s⟩=>match get s t with
     |some (.v (.bool true))=>(match want with
      |true=>vD P Γ o ⟨n,h,s⟩ K
      |false=>Kb n h s Γ.N o.dst (.tup []) K)
     |some (.v (.bool false))=>(match want with
      |false=>vD P Γ o ⟨n,h,s⟩ K
      |true=>Kb n h s Γ.N o.dst (.tup []) K)
     |some (.sb b)=>(match want with
      |true=>Br b (vD P Γ o ⟨n,h,(t,.v (.bool true))::s⟩ K) (Kb n h ((t,.v (.bool false))::s) Γ.N o.dst (.tup []) K)
      |false=>Br b (Kb n h ((t,.v (.bool true))::s) Γ.N o.dst (.tup []) K) (vD P Γ o ⟨n,h,(t,.v (.bool false))::s⟩ K))
     |some (.tup [])=>Kb n h s Γ.N o.dst (.tup []) K
     |_=>False
def aJs(P:Program)(Γ:Ctx)(ops:List Oper):List Oper->St->(St->Prop)->Prop
 |[],σ,K=>K σ
 |o::rest,σ,K=>tO P Γ ops o σ fun σ'=>aJs P Γ ops rest σ' K
def xB(σ:St)(o:Oper):Option (List Nat):=
 match o.guard with
 |some _=>none
 |none=>match o.op with
  |.alloc _=>some []
  |.box _ _=>some []
  |.buildSlice _ _ _=>some []
  |.call c=>(match c.callee with
   |.value f=>some (Pq σ.h (σ.ev f) (c.args.toList.map σ.ev))
   |_=>none)
  |_=>none
def oD(ops:Array Oper):Nat->Nat->Nat->Bool
 |0,_,_=>false
 |f+1,j,i=>match ops[j]? with
  |some o=>o.after.toList.any fun e=>Region.binds .any e&&(Nat.beq e.on i||oD ops f e.on i)
  |none=>false
def hasB(h:Hp)(id:Nat):Bool:=match get h id with
 |some _=>true
 |none=>false
def apartB(h:Hp)(id:Nat):List Nat->Bool
 |[]=>true
 |x::r=> !(Nat.beq x id)&&(hasB h x&&apartB h id r)
def xC(ops:List Oper)(j:Nat)(σ:St)(o:Oper):List (Nat×Nat)->Bool
 |[]=>true
 |(i,id)::r=>(kW o.op||(oD ops.toArray ops.toArray.size j i||(hasB σ.h id&&(match xB σ o with
   |some T=>apartB σ.h id T
   |none=>false))))&&xC ops j σ o r
def vH(P:Program)(Γ:Ctx)(ops:List Oper)(Z:List (Nat×Nat)):Sched->St->(St->Prop)->Prop
 |.done,σ,K=>K σ
 |.one i _ rest,σ,K=>(match ops[i]? with
  |some o=>match xC ops i σ o Z with
   |true=>tO P Γ ops o σ fun σ'=>vH P Γ ops Z rest σ' K
   |false=>False
  |none=>False)
 |.alt i a more,σ,K=>(match ops[i]? with
  |some o=>(match xC ops i σ o Z with
   |true=>(tO P Γ ops o σ fun σ'=>vH P Γ ops Z a σ' K)/\vH P Γ ops Z more σ K
   |false=>False)
  |none=>False)
 |.stop,_,_=>True
 |.wch i rest,σ,K=>(match ops[i]? with
  |some o=>(match o.op,o.guard with
   |.load _ x,none=>(match σ.ev x with
    |.fp _=>tO P Γ ops o σ fun σ'=>vH P Γ ops Z rest σ' K
    |.op id _=>tO P Γ ops o σ fun σ'=>vH P Γ ops ((i,id)::Z) rest σ' K
    |.ep id _ _ _=>tO P Γ ops o σ fun σ'=>vH P Γ ops ((i,id)::Z) rest σ' K
    |_=>False)
   |_,_=>False)
  |none=>False)
def D1(o:Op):Bool:= !Rd o
def oO(own:FuncId->Bool):Op->Bool
 |.alloc _=>true
 |.box _ _=>true
 |.buildSlice _ _ _=>true
 |.call c=>match c.callee with
  |.value (.func f)=> !own f
  |_=>false
 |_=>false
def Sched.depth:Sched->Nat
 |.done=>0
 |.one _ _ r=>r.depth+1
 |.alt _ a _=>a.depth+1
 |.stop=>0
 |.wch _ r=>r.depth+1
def Sched.heads:Sched->List Nat
 |.alt i _ more=>i::more.heads
 |_=>[]
def lF(own:FuncId->Bool)(ops:Array Oper):Option Nat->Sched->Array Bool->Bool
 |none,.done,L=>(Region.ready .any ops L).isEmpty
 |none,.one i true rest,L=>(Region.ready .any ops L).contains i&&(Region.free .any ops L i&&(((ops[i]?).map fun o=>kW o.op).getD false&&
   ((((ops[i]?).map fun o=>D1 o.op).getD false||(List.range ops.size).all fun j=>L.getD j true||(((ops[j]?).map fun o=>kW o.op||oO own o.op).getD true||oD ops ops.size j i))&&lF own ops none rest (L.setIfInBounds i true))))
 |none,.one i false rest,L=>decide (Region.ready .any ops L=[i])&&lF own ops none rest (L.setIfInBounds i true)
 |none,.alt i a more,L=>decide (Region.ready .any ops L=i::more.heads)&&(lF own ops none a (L.setIfInBounds i true)&&lF own ops (some a.depth) more L)
 |some d,.alt i a more,L=>a.depth==d&&(lF own ops none a (L.setIfInBounds i true)&&lF own ops (some d) more L)
 |some _,.stop,_=>true
 |none,.wch i rest,L=>(Region.ready .any ops L).contains i&&(Region.free .any ops L i&&lF own ops none rest (L.setIfInBounds i true))
 |_,_,_=>false
def Fw(own:FuncId->Bool)(ops:Array Oper)(s:Sched):Bool:=Region.noSelect ops&&(s.depth==ops.size&&lF own ops none s (Array.replicate ops.size false))
def Ri(s:List (Nat×AV)):List Nat->(List (Nat×AV)->Prop)->Prop
 |[],K=>K []
 |t::ts,K=>match get s t with
  |some x=>frc x fun x=>Ri s ts fun r=>K ((t,x)::r)
  |none=>Ri s ts K
def aJD(n:Nat)(h:Hp)(id c:Nat)(K:Nat->Hp->Prop):Prop:=
 match get h id with
 |some (.box cs)=>(match cs[c]? with
  |some (.os i sz off len)=>(match get h i with
   |some (.arr sz' xs)=>rD (cs.set c (.os n sz off len)) fun ds=>oV (del (del h i) id) fun h'=>nB (n+1) fun n1=>K n1 ((n,.arr sz' xs)::(id,.box ds)::h')
   |_=>False)
  |_=>False)
 |_=>False
def nG(σ:St):List Hint->(St->Prop)->Prop
 |[],K=>K σ
 |.freeze t::r,K=>(match σ with
  |⟨n,h,s⟩=>match Nat.beq t DS,get s t with
   |false,some x=>aBF h x fun y=>frc y fun y=>oV (dels h (tD x)) fun h'=>nG ⟨n,h',(t,y)::s⟩ r K
   |_,_=>False)
 |.virt t sz::r,K=>(match σ with
  |⟨n,h,s⟩=>match get s t with
   |some .nils=>nB (n+1) fun n1=>nG ⟨n1,(n,.arr sz [])::h,(t,.os n sz 0 0)::s⟩ r K
   |some (.os _ _ _ _)=>nG ⟨n,h,s⟩ r K
   |_=>False)
 |.keep ts::r,K=>(match σ with
  |⟨n,h,s⟩=>Ri s (DS::ts) fun s'=>nG ⟨n,h,s'⟩ r K)
 |.virtB t c sz::r,K=>(match σ with
  |⟨n,h,s⟩=>match get s t with
   |some (.op id 0)=>(match get h id with
    |some (.box cs)=>(match cs[c]? with
     |some .nils=>rD (cs.set c (.os n sz 0 0)) fun ds=>oV (del h id) fun h'=>nB (n+1) fun n1=>nG ⟨n1,(n,.arr sz [])::(id,.box ds)::h',s⟩ r K
     |some (.os _ _ _ _)=>nG ⟨n,h,s⟩ r K
     |_=>False)
    |_=>False)
   |_=>False)
 |.freezeB t::r,K=>(match σ with
  |⟨n,h,s⟩=>match get s t with
   |some (.op id 0)=>(match get h id with
    |some (.box cs)=>(match Gp id (mX cs)with
     |false=>Q3 h cs fun ds=>rD ds fun ds=>oV (dels (del h id) (mX cs)) fun h'=>nG ⟨n,(id,.box ds)::h',s⟩ r K
     |true=>False)
    |_=>False)
   |_=>False)
 |.asL t::r,K=>(match σ with
  |⟨n,h,s⟩=>match get s t with
   |some .nils=>nG ⟨n,h,(t,.lst [])::s⟩ r K
   |some (.lst _)=>nG ⟨n,h,s⟩ r K
   |_=>False)
 |.renewB t c::r,K=>(match σ with
  |⟨n,h,s⟩=>match get s t with
   |some (.op id 0)=>aJD n h id c fun n1 h1=>nG ⟨n1,h1,s⟩ r K
   |_=>False)
 |.renewI id c::r,K=>(match σ with
  |⟨n,h,s⟩=>aJD n h id c fun n1 h1=>nG ⟨n1,h1,s⟩ r K)
 |.flatS t::r,K=>(match σ with
  |⟨n,h,s⟩=>match get s t with
   |some x=>flatK h x fun h'=>nG ⟨n,h',s⟩ r K
   |none=>False)
 |.flatB t c::r,K=>(match σ with
  |⟨n,h,s⟩=>match get s t with
   |some (.op id 0)=>(match get h id with
    |some (.box cs)=>(match cs[c]? with
     |some x=>flatK h x fun h'=>nG ⟨n,h',s⟩ r K
     |none=>False)
    |_=>False)
   |_=>False)
def Pa(P:Program)(Γ:Ctx)(id:Nat)(ops:List Oper)(draw:Bool)(σ:St)(K:St->Prop):Prop:=
 nG σ (Γ.hints id) fun σ=>match draw with
  |false=>aJs P Γ ops ops σ K
  |true=>match Γ.plan id with
   |some s=>Ob (Fw Γ.own ops.toArray s=true) (vH P Γ ops [] s σ K)
   |none=>False
def pQ(ρ:Nat->Option Nat)(x:AV):Option AV:=
 match x with
 |.op id off=>(match ρ id with
  |some j=>some (.op j off)
  |none=>none)
 |.ep id sz i off=>(match ρ id with
  |some j=>some (.ep j sz i off)
  |none=>none)
 |.os id sz off len=>(match ρ id with
  |some j=>some (.os j sz off len)
  |none=>none)
 |.mp id=>(match ρ id with
  |some j=>some (.mp j)
  |none=>none)
 |.dfr id s=>(match ρ id with
  |some j=>some (.dfr j s)
  |none=>none)
 |.agg _=>none
 |.tup _=>none
 |.fn f [] []=>some (.fn f [] [])
 |.fn _ _ _=>none
 |x=>some x
def F8(ρ:Nat->Option Nat):List AV->Option (List AV)
 |[]=>some []
 |x::xs=>match pQ ρ x,F8 ρ xs with
  |some y,some ys=>some (y::ys)
  |_,_=>none
def vJ(ρ:Nat->Option Nat)(x:AV):Option AV:=
 match x with
 |.fn f a b=>(match F8 ρ a,F8 ρ b with
  |some a',some b'=>some (.fn f a' b')
  |_,_=>none)
 |x=>pQ ρ x
def yK(ρ:Nat->Option Nat):List AV->Option (List AV)
 |[]=>some []
 |x::xs=>match vJ ρ x,yK ρ xs with
  |some y,some ys=>some (y::ys)
  |_,_=>none
def tH(ρ:Nat->Option Nat)(x:AV):Option AV:=
 match x with
 |.agg cs=>(match yK ρ cs with
  |some ds=>some (.agg ds)
  |none=>none)
 |.fn f a b=>(match yK ρ a,yK ρ b with
  |some a',some b'=>some (.fn f a' b')
  |_,_=>none)
 |x=>vJ ρ x
def Km(ρ:Nat->Option Nat):Obj->Option Obj
 |.box cs=>(match yK ρ cs with
  |some ds=>some (.box ds)
  |none=>none)
 |.arr sz xs=>some (.arr sz xs)
 |.spc (.it mid τ L l)=>(match mid with
  |some i=>(match ρ i with
   |some j=>some (.spc (.it (some j) τ L l))
   |none=>none)
  |none=>none)
 |.spc s=>some (.spc s)
def LeS(ρ:List (Nat×Nat)):List (Nat×AV)->St->Prop
 |[],_=>True
 |(t,x)::r,σ=>(match tH (get ρ) x with
  |some y=>get σ.s t=some y
  |none=>False)/\LeS ρ r σ
def LeH(ρ:List (Nat×Nat)):Hp->St->Prop
 |[],_=>True
 |(id,o)::r,σ=>(match get ρ id,Km (get ρ) o with
  |some j,some o'=>get σ.h j=some o'
  |_,_=>False)/\LeH ρ r σ
def aCw:List (Nat×Nat)->Bool
 |[]=>true
 |(k,v)::r=>r.all (fun p=> !(Nat.beq p.1 k)&& !(Nat.beq p.2 v))&&aCw r
def Id(n:Nat):List (Nat×Nat)->Bool
 |[]=>true
 |(k,_)::r=>Nat.blt k n&&Id n r
def aBD(ρ:List (Nat×Nat)):Nat->Bool
 |0=>true
 |k+1=>(match get ρ k with
  |some j=>Nat.beq j k
  |none=>false)&&aBD ρ k
def aMe(s σ:List (Nat×AV)):Bool:=match get s DS,get σ DS with
 |none,some _=>false
 |_,_=>true
def Le(p:Nat)(s σ:St):Prop:=∃ρ:List (Nat×Nat),(aCw ρ&&(Id s.n ρ&&(aBD ρ p&&aMe s.s σ.s)))=true/\LeS ρ s.s σ/\LeH ρ s.h σ
structure Lp0 (p:Nat) (body:St->(Exit->St->Prop)->Prop) (σ:St) (Q:Exit->St->Prop):Prop where
 out:∃(G:Type) (S:G->St) (Inv:G->Prop) (μ:G->Nat),(∃g,Inv g/\Le p (S g) σ)/\
  ∀g,Inv g->body (S g) fun e σ'=>match e with
   |.normal=>∃g',Inv g'/\μ g'<μ g/\Le p (S g') σ'
   |e=>Q e σ'
structure Stp (p:Prop):Prop where
 out:p
def LpN(p:Nat)(body:St->(Exit->St->Prop)->Prop)(Q:Exit->St->Prop):Nat->St->Prop
 |0,σ=>Lp0 p body σ Q
 |n+1,σ=>Lp0 p body σ Q\/body σ fun e σ'=>match e with
   |.normal=>Stp (LpN p body Q n σ')
   |e=>Q e σ'
structure Lp (p:Nat) (body:St->(Exit->St->Prop)->Prop) (σ:St) (Q:Exit->St->Prop):Prop where
 out:∃n,LpN p body Q n σ
structure Jn (p:Nat) (body:(St->Prop)->Prop) (K:St->Prop):Prop where
 out:∃(G:Type) (S:G->St) (Inv:G->Prop),body (fun σ'=>∃g,Inv g/\Le p (S g) σ')/\∀g,Inv g->K (S g)
def Of:Code->Option Nat
 |.region id _ _=>some id
 |.seq a _=>Of a
 |.block _ c=>Of c
 |.loop c=>Of c
 |_=>none
def cutAt(Γ:Ctx)(c:Code):Bool:=
 match Of c with
 |some id=>Γ.cut id
 |none=>false
def qR(P:Program)(Γ:Ctx):Code->St->(Exit->St->Prop)->Prop
 |.skip,σ,Q=>Q .normal σ
 |.region id ops draw,σ,Q=>Pa P Γ id ops.toList draw σ (Q .normal)
 |.seq a b,σ,Q=>(match cutAt Γ b with
  |true=>Jn Γ.np (fun K=>qR P Γ a σ fun e σ'=>match e with
   |.normal=>K σ'
   |e=>Q e σ') fun σ'=>qR P Γ b σ' Q
  |false=>qR P Γ a σ fun e σ'=>match e with
   |.normal=>qR P Γ b σ' Q
   |e=>Q e σ')
 |.cond c x y,σ,Q=>(match σ.ev c with
  |.v (.bool true)=>qR P Γ x σ Q
  |.v (.bool false)=>qR P Γ y σ Q
  |.sb b=>Br b (qR P Γ x σ Q) (qR P Γ y σ Q)
  |_=>False)
 |.block id c,σ,Q=>qR P Γ c σ fun e σ'=>match e with
  |.exit i=>(match Nat.beq i id with
   |true=>Q .normal σ'
   |false=>Q (.exit i) σ')
  |e=>Q e σ'
 |.loop c,σ,Q=>Lp Γ.np (qR P Γ c) σ Q
 |.exit id,σ,Q=>Q (.exit id) σ
 |.ret,σ,Q=>Q .ret σ
 |.label _,σ,Q=>Q .normal σ
 |_,_,_=>False
def Pd(P:Program)(σ:St):List ResultVar->(List AV->Prop)->Prop
 |[],K=>K []
 |.tmp t::r,K=>(match Nat.beq t DS,get σ.s t with
  |false,some x=>Pd P σ r fun xs=>K (x::xs)
  |_,_=>False)
 |.cell a t::r,K=>(match Nat.beq a DS,get σ.s a with
  |false,some X=>ldQ P σ.h t X fun x=>Pd P σ r fun xs=>K (x::xs)
  |_,_=>False)
def aMy(h:Hp)(x:AV)(K:AV->Prop):Prop:=
 match x with
 |.tup vs=>Wl h vs fun vs'=>K (.tup vs')
 |x=>aBF h x K
def AV.norefT:AV->Bool
 |.tup vs=>vs.all AV.noref
 |x=>x.noref
def wT:AV->List Nat
 |.tup vs=>oY vs
 |x=>tD x
def upTo:Nat->List Nat
 |0=>[]
 |k+1=>upTo k++[k]
def aTb(p:Nat)(h:Hp)(id sz off len:Nat)(K:AV->List Obj->Prop):Prop:=
 match Nat.ble p id with
 |true=>(match sO h (upTo p++[id])with
  |some hs=>rH (inN (upTo p++[id])) hs fun hs=>K (.os p sz off len) hs
  |none=>False)
 |false=>(match sO h (upTo p)with
  |some hs=>rH (inN (upTo p)) hs fun hs=>K (.os id sz off len) hs
  |none=>False)
def aFL(p:Nat)(h:Hp)(x:AV)(K:AV->List Obj->Prop):Prop:=
 Jb (addN (upTo p) (wT x)) fun ids=>match sO h ids with
 |some hs=>rH (inN ids) hs fun hs=>aBE (aJF (inN ids) x) fun y=>K y hs
 |none=>False
def aBC(p:Nat)(h:Hp)(x:AV)(K:AV->List Obj->Prop):Prop:=
 match x with
 |.op id off=>(match Nat.ble p id with
  |true=>(match sO h (upTo p++[id])with
   |some hs=>rH (inN (upTo p++[id])) hs fun hs=>K (.op p off) hs
   |none=>False)
  |false=>False)
 |x=>aMy h x fun y=>match sO (dels h (wT x)) (upTo p)with
  |some hs=>(match y.norefT with
   |true=>rH (inN (upTo p)) hs fun hs=>K y hs
   |false=>False)
  |none=>False
def aMw(b:Bool)(p:Nat)(h:Hp)(x:AV)(K:AV->List Obj->Prop):Prop:=
 match b with
 |false=>aBC p h x K
 |true=>match x with
  |.os id sz off len=>aTb p h id sz off len K
  |.agg cs=>aFL p h (.agg cs) K
  |.tup vs=>aFL p h (.tup vs) K
  |x=>aBC p h x K
def J2(h:Hp):List Nat->List Obj
 |[]=>[]
 |i::l=>(match get h i with
  |some o=>o
  |none=>.box [])::J2 h l
def qL(h:Hp):List Nat->List Nat
 |[]=>[]
 |i::l=>match get h i with
  |some (.box cs)=>mX cs++qL h l
  |_=>qL h l
def aBB(p:Nat)(h:Hp)(x:AV)(K:AV->List Obj->Prop):Prop:=
 Jb (addN (addN (upTo p) (qL h (upTo p))) (wT x++qL h (wT x))) fun ids=>rH (inN ids) (J2 h ids) fun hs=>aBE (aJF (inN ids) x) fun y=>K y hs
def Tt(o b:Bool)(p:Nat)(h:Hp)(x:AV)(K:AV->List Obj->Prop):Prop:=
 match o with
 |true=>aBB p h x K
 |false=>aMw b p h x K
def D9:List AV->AV
 |[x]=>x
 |xs=>.tup xs
def aFK(P:Program)(Γ:Ctx)(rs:List ResultVar)(K:AV->List Obj->Prop)(σ:St):Prop:=
 match get σ.s DS with
 |none=>Pd P σ rs fun xs=>Tt Γ.out Γ.res Γ.np σ.h (D9 xs) K
 |some (.dfr id s)=>(match mapOf (get σ.h id)with
  |some f=>Mu f (Iz f (.string s)) fun f'=>oV (set σ.h id (.spc (.m f'))) fun h'=>Pd P ⟨σ.n,h',σ.s⟩ rs fun xs=>Tt Γ.out Γ.res Γ.np h' (D9 xs) K
  |_=>False)
 |_=>False
def aRe(P:Program)(Γ:Ctx)(rs:List ResultVar)(K:AV->List Obj->Prop):Exit->St->Prop
 |.normal,σ=>aFK P Γ rs K σ
 |.ret,σ=>aFK P Γ rs K σ
 |_,_=>False
def slotsOf:Nat->List AV->List (Nat×AV)
 |_,[]=>[]
 |k,x::xs=>(k,x)::slotsOf (k+1) xs
def W2(hs:List Obj)(args:List AV)(K:St->Prop):Prop:=nB hs.length fun n=>oV (jF 0 hs) fun h=>aFR (slotsOf 0 args) fun s=>K ⟨n,h,s⟩
def Pur(P:Program){α:Type}(s:Sem α):Prop:=∀w v w',s.run P w=.ok v w'->w'=w/\∀w2,s.run P w2=.ok v w2
section
variable {P:Program} {α β:Type}
theorem Pur.pure(a:α):Pur P (Pure.pure a:Sem α):=fun w v w' h=>by simp at h;obtain⟨rfl,rfl⟩:=h;exact⟨rfl,fun w2=>by simp⟩
theorem Pur.halt(x:Halt):Pur P (.halt x:Sem α):=fun w v w' h=>by simp at h
theorem Pur.program:Pur P Go.program:=fun w v w' h=>by
 rw[run_program]at h;cases h;exact⟨rfl,fun w2=>run_program _ _⟩
theorem Pur.bind{x:Sem α}{f:α->Sem β}(hx:Pur P x)(hf:∀a,Pur P (f a)):Pur P (x>>=f):=fun w v w' h=>by
 rw[Sem.run_bind]at h;cases hr:x.run P w with
 |halt a b=>rw[hr]at h;cases h
 |ok a w1=>
  rw[hr]at h;obtain⟨rfl,h1⟩:=hx w a w1 hr;obtain⟨rfl,h2⟩:=hf a _ v w' h;exact⟨rfl,fun w2=>by rw[Sem.run_bind,h1 w2];exact h2 w2⟩
theorem Pur.never{x:Sem α}(h:∀w v w',x.run P w≠.ok v w'):Pur P x:=fun w v w' hh=>absurd hh (h w v w')
theorem Ey(t:TypeId):Pur P (typeInfo t):=by
 unfold typeInfo;refine Pur.bind Pur.program fun p=>?_;split
 ·exact Pur.pure _
 ·exact Pur.halt _
theorem Ko(t:TypeId):Pur P (underlying t):=by
 unfold underlying;refine Pur.bind Pur.program fun p=>?_;split
 ·exact Pur.pure _
 ·exact Pur.halt _
theorem U8(t:TypeId):Pur P (sizeOf t):=Pur.bind (Ey t) fun _=>Pur.pure _
def Adds(P:Program){α:Type}(s:Sem α):Prop:=∀w v w',s.run P w=.ok v w'->Same w w'
theorem Pur.adds{s:Sem α}(h:Pur P s):Adds P s:=fun w v w' hr=>by rw[(h w v w' hr).1];exact .refl
theorem Adds.bind{x:Sem α}{f:α->Sem β}(hx:Adds P x)(hf:∀a,Adds P (f a)):Adds P (x>>=f):=fun w v w' h=>by
 rw[Sem.run_bind]at h;cases hr:x.run P w with
 |halt a b=>rw[hr]at h;cases h
 |ok a w1=>rw[hr]at h;exact(hx w a w1 hr).trans (hf a _ v w' h)
theorem Adds.newObj(o:Go.Obj):Adds P (newObj o):=fun w v w' h=>by
 rw[run_newObj]at h;cases h;intro b hb;exact Array.getElem?_push_lt hb▸(bL hb).symm▸rfl
theorem Adds.pure(a:α):Adds P (Pure.pure a:Sem α):=(Pur.pure a).adds
theorem yM(t:TypeId):Pur P (zeroValue t):=by
 unfold zeroValue;refine Pur.bind (Ey t) fun i=>?_;split
 ·exact Pur.pure _
 ·exact Pur.halt _
theorem G1(t:TypeId)(v:Value):Adds P (newVar t v):=Adds.bind (Adds.newObj _) fun _=>.pure _
theorem S4(t:TypeId):Adds P (Instr.alloc t true (.tuple #[])):=Adds.bind (yM t).adds fun _=>Adds.bind (G1 _ _) fun _=>.pure _
theorem aAv(t:TypeId)(v:Value):Adds P (Instr.box t v):=Adds.bind (G1 _ _) fun _=>.pure _
theorem Hg(t:TypeId)(n:Nat)(parts:Array (Nat×Value)):Adds P (Instr.buildSlice t n parts):=by
 unfold Instr.buildSlice;refine Adds.bind (Ko t).adds fun d=>?_;cases d<;>try exact(Pur.halt _).adds
 refine Adds.bind (U8 _).adds fun m=>?_
 extract_lets jp2 jp1
 have h2:∀z,Adds P (jp2 z):=by
  intro z;simp only[jp2];split
  ·exact Adds.bind (Adds.bind (Adds.newObj _) fun _=>.pure _) fun _=>.pure _
  ·exact(Pur.halt _).adds
 have h1:∀r,Adds P (jp1 r):=by
  intro r;simp only[jp1];split
  ·exact Adds.bind (.pure _) fun _=>h2 _
  ·exact Adds.bind (yM _).adds fun _=>Adds.bind (.pure _) fun _=>h2 _
 split
 ·exact Adds.bind (Pur.halt _).adds fun u=>h1 ()
 ·exact h1 ()
end
end Go.Vm
