/- Lemmas. -/
import Derived.Test.YtnomkooikbhgmaaGreatDoorProg
import Derived.Shelf.SlLaysF0
import Derived.Test.YtnomkooikbhgmaaGreatDoorM27
set_option linter.unusedVariables false
set_option linter.unusedSimpArgs false
set_option maxRecDepth 100000
set_option maxHeartbeats 4000000
noncomputable section
namespace Go.Proofs.YtnomkooikbhgmaaGreatDoor
open Go Go.Vm
section
variable {n:Nat} {d:Array Int} (hn:d.size=n) (a b:Nat) (hsz:n<1000000000000) {K:KT}
include hn hsz
end
def Bf:Sched:=lz [1,3,5,7,9,15,17,19,21,23] (.wch 5 (ln [12,24,27,28,30,33]))
def gnCpD:Ctx:={N:=28,plan:=p1 5 Bf pn,out:=true}
abbrev ofnCpD:=ofD gnCpD Tryz.func103
def gnCpI:Ctx:={N:=55,own:=oz [103],plan:=p1 1 (lz [1,3,7] (.wch 4 (.alt 2 (.alt 5 (ln [13,14,16]) (.alt 7 (ln [10,13,16]) Aa)) (.alt 7 (ln [4,10,13,16]) Aa)))) (p1 5 (lz [1,5,9,19,21,23,25,27,29] (.wch 3 (lz [11,13] (.wch 7 (.alt 1 (ln [16,30,33,34,36,39,40]) (.alt 8 (.alt 1 (ln [30,33,34,36,39,40]) (.alt 15 (ln [3,33,34,36,39,40]) Aa)) Aa)))))) pn),hints:=h1 2 [.freeze 1] (h1 6 [.flatB 3 2,.virtB 3 1 2,.virtB 3 2 2] hn),out:=true}
def gnCpE:Ctx:={N:=28,plan:=p1 5 Bf pn,hints:=h1 6 [.flatS 3,.virt 3 2] hn,out:=true}
abbrev ofnCpE:=ofD gnCpE Tryz.func103
def gnCpB:Ctx:={N:=55,own:=oz [103],plan:=gnCpI.plan,hints:=h1 2 [.freeze 1] (h1 6 [.flatB 3 2,.virtB 3 2 2] hn),out:=true}
abbrev ofnCpB:=ofD gnCpB Tryz.func44
def gnCpV:Ctx:={N:=55,own:=oz [103],plan:=gnCpI.plan,hints:=h1 2 [.freeze 1] (h1 6 [.flatB 3 2,.virtB 3 2 2] hn),out:=true}
abbrev ofnCpV:=ofD gnCpV Tryz.func44
def gnSpV:Ctx:={N:=272,np:=1,own:=oz [44,11,47,48,45,46],plan:=gnSpo.plan}
abbrev ofnSpV:=ofD gnSpV Tryz.func10
def gnSpI2:Ctx:={N:=272,np:=1,own:=oz [44,11,47,48,45,46],plan:=gnSpo.plan,hints:=h1 37 [.flatB 5 0] hn}
abbrev ofnSpI2:=ofD gnSpI2 Tryz.func10
def gnSpW:Ctx:={N:=272,np:=1,own:=oz [44,11,47,48,45,46],plan:=gnSpo.plan,cut:=oz [37]}
def bnSpW:Code:=bdy Tryz.f10
abbrev ofnSpW:=ofD gnSpW Tryz.func10
end Go.Proofs.YtnomkooikbhgmaaGreatDoor
namespace Go.Vm
abbrev PNode:=Option Nat×Sched×Array Bool
def locP(own:FuncId->Bool)(ops:Array Oper)(q:PNode):Bool:=
 match q.1,q.2.1,q.2.2 with
 |none,.done,L=>(Region.ready .any ops L).isEmpty
 |none,.one i true rest,L=>(Region.ready .any ops L).contains i&&(Region.free .any ops L i&&(((ops[i]?).map fun o=>isQuiet o.op).getD false&&
   (((ops[i]?).map fun o=>isStill o.op).getD false||(List.range ops.size).all fun j=>L.getD j true||(((ops[j]?).map fun o=>isQuiet o.op||isMild own o.op).getD true||waitsF ops ops.size j i))))
 |none,.one i false rest,L=>decide (Region.ready .any ops L=[i])
 |none,.alt i a more,L=>decide (Region.ready .any ops L=i::more.heads)
 |some d,.alt i a more,L=>a.depth==d
 |some _,.stop,_=>true
 |none,.wch i rest,L=>(Region.ready .any ops L).contains i&&Region.free .any ops L i
 |_,_,_=>false
def kidsP(q:PNode):List PNode:=
 match q.1,q.2.1,q.2.2 with
 |none,.one i _ rest,L=>[(none,rest,L.setIfInBounds i true)]
 |none,.alt i a more,L=>[(none,a,L.setIfInBounds i true),(some a.depth,more,L)]
 |some d,.alt i a more,L=>[(none,a,L.setIfInBounds i true),(some d,more,L)]
 |none,.wch i rest,L=>[(none,rest,L.setIfInBounds i true)]
 |_,_,_=>[]
def okP(own:FuncId->Bool)(ops:Array Oper)(q:PNode):Bool:=okPlan own ops q.1 q.2.1 q.2.2
theorem okP_step{own:FuncId->Bool}{ops:Array Oper}{q:PNode}(h1:locP own ops q=true)(h2:(kidsP q).all (okP own ops)=true):okP own ops q=true:=by
 obtain⟨c,s,L⟩:=q;unfold okP;cases c with
 |none=>
  cases s with
  |done=>simpa[okPlan,locP]using h1
  |one i b rest=>
   cases b with
   |true=>
    simp only[locP,kidsP,eV,gE,eW,okP,aJ]at h1 h2;simp only[okPlan,aJ];exact⟨h1.1,h1.2.1,h1.2.2.1,h1.2.2.2,h2⟩
   |false=>
    simp only[locP,kidsP,eV,gE,eW,okP]at h1 h2;simp only[okPlan,aJ];exact⟨h1,h2⟩
  |alt i a more=>
   simp only[locP,kidsP,eV,gE,eW,okP,aJ]at h1 h2;simp only[okPlan,aJ];exact⟨h1,h2.1,h2.2⟩
  |stop=>simp[locP]at h1
  |wch i rest=>
   simp only[locP,kidsP,eV,gE,eW,okP,aJ]at h1 h2;simp only[okPlan,aJ];exact⟨h1.1,h1.2,h2⟩
 |some d=>
  cases s with
  |alt i a more=>
   simp only[locP,kidsP,eV,gE,eW,okP,aJ]at h1 h2;simp only[okPlan,aJ];exact⟨h1,h2.1,h2.2⟩
  |stop=>rfl
  |done=>simp[locP]at h1
  |one _ _ _=>simp[locP]at h1
  |wch _ _=>simp[locP]at h1
def frontP:Nat->List PNode->List PNode
 |0,l=>l
 |n+1,l=>frontP n (l.flatMap kidsP)
def headP(own:FuncId->Bool)(ops:Array Oper):Nat->List PNode->Bool
 |0,_=>true
 |n+1,l=>l.all (locP own ops)&&headP own ops n (l.flatMap kidsP)
theorem front_ok{own:FuncId->Bool}{ops:Array Oper}:∀(n:Nat) {l:List PNode},headP own ops n l=true->(frontP n l).all (okP own ops)=true->l.all (okP own ops)=true
 |0,_,_,h=>h
 |n+1,l,h1,h2=>by
  simp only[headP,aJ,bR]at h1;have h3:=front_ok n h1.2 h2;rw[bR]at h3⊢;intro q hq;refine okP_step (h1.1 q hq) (bR.2 fun k hk=>h3 k (eD.2 ⟨q,hq,hk⟩))
def rootP(ops:Array Oper)(s:Sched):List PNode:=[(none,s,Array.replicate ops.size false)]
theorem all_cut{α:Type}{p:α->Bool}{l:List α}(k:Nat)(h1:(l.take k).all p=true)(h2:(l.drop k).all p=true):l.all p=true:=by
 rw[<-cO k l,List.all_append,h1,h2];rfl
theorem planOk_of{own:FuncId->Bool}{ops:Array Oper}{s:Sched}(n:Nat)(h0:(Region.noSelect ops&&s.depth==ops.size)=true)(h1:headP own ops n (rootP ops s)=true)(h2:(frontP n (rootP ops s)).all (okP own ops)=true):planOk own ops s=true:=by
 have h:=front_ok n h1 h2;simp only[rootP,eV,gE,eW,okP]at h;simp only[aJ]at h0;simp only[planOk,aJ];exact⟨h0.1,h0.2,h⟩
def regOf(i:Nat):Code->Option (Array Oper)
 |.region id ops _=>match Nat.beq id i with
  |true=>some ops
  |false=>none
 |.seq a b=>match regOf i a with
  |some x=>some x
  |none=>regOf i b
 |.cond _ a b=>match regOf i a with
  |some x=>some x
  |none=>regOf i b
 |.block _ b=>regOf i b
 |.loop b=>regOf i b
 |.scope b=>regOf i b
 |_=>none
def regO(i:Nat)(c:Code):Array Oper:=match regOf i c with
 |some x=>x
 |none=>#[]
def plnO(Γ:Ctx)(i:Nat):Sched:=match Γ.plan i with
 |some s=>s
 |none=>.stop
end Go.Vm
namespace Go.Proofs
open Go.Shelf
def Tryz.sortR_ren:Go.Shelf.Ren:=⟨fun|6=>266|15=>82|14=>301|28=>165|29=>166|20=>312|21=>313|22=>314|23=>315|24=>316|25=>317|26=>318|27=>319|46=>322|47=>234|48=>235|49=>323|50=>324|57=>334|n=>n,fun|22=>102|24=>96|25=>284|3=>3|39=>145|0=>0|53=>55|55=>188|4=>4|46=>203|45=>202|50=>207|5=>5|9=>9|66=>252|70=>256|76=>304|77=>237|n=>n,fun|n=>n⟩
theorem Tryz.sortR:Go.Proofs.SlLaysF0.n6 Tryz.prog Tryz.sortR_ren:={
 mixed:=by kernel_rfl
 f6:=⟨Tryz.f266.name,by decide,Tryz.func266.trans (congrArg some (by kernel_rfl))⟩
 f14:=⟨Tryz.f301.name,by decide,Tryz.func301.trans (congrArg some (by kernel_rfl))⟩
 f15:=Tryz.func82.trans (congrArg some (by kernel_rfl))
 f20:=⟨Tryz.f312.name,by decide,Tryz.func312.trans (congrArg some (by kernel_rfl))⟩
 f21:=⟨Tryz.f313.name,by decide,Tryz.func313.trans (congrArg some (by kernel_rfl))⟩
 f22:=⟨Tryz.f314.name,by decide,Tryz.func314.trans (congrArg some (by kernel_rfl))⟩
 f23:=⟨Tryz.f315.name,by decide,Tryz.func315.trans (congrArg some (by kernel_rfl))⟩
 f24:=⟨Tryz.f316.name,by decide,Tryz.func316.trans (congrArg some (by kernel_rfl))⟩
 f25:=⟨Tryz.f317.name,by decide,Tryz.func317.trans (congrArg some (by kernel_rfl))⟩
 f26:=⟨Tryz.f318.name,by decide,Tryz.func318.trans (congrArg some (by kernel_rfl))⟩
 f27:=⟨Tryz.f319.name,by decide,Tryz.func319.trans (congrArg some (by kernel_rfl))⟩
 f28:=Tryz.func165.trans (congrArg some (by kernel_rfl))
 f29:=Tryz.func166.trans (congrArg some (by kernel_rfl))
 f46:=⟨Tryz.f322.name,by decide,Tryz.func322.trans (congrArg some (by kernel_rfl))⟩
 f47:=Tryz.func234.trans (congrArg some (by kernel_rfl))
 f48:=Tryz.func235.trans (congrArg some (by kernel_rfl))
 f49:=⟨Tryz.f323.name,by decide,Tryz.func323.trans (congrArg some (by kernel_rfl))⟩
 f50:=⟨Tryz.f324.name,by decide,Tryz.func324.trans (congrArg some (by kernel_rfl))⟩
 f57:=⟨Tryz.f334.name,by decide,Tryz.func334.trans (congrArg some (by kernel_rfl))⟩
 t0:=Tryz.underlying0
 a0:=Tryz.isAgg0
 z0:=Tryz.sizeOf0
 v0:=Tryz.zeroValue0
 t3:=Tryz.underlying3
 a3:=Tryz.isAgg3
 z3:=Tryz.sizeOf3
 v3:=Tryz.zeroValue3
 t4:=Tryz.underlying4
 a4:=Tryz.isAgg4
 z4:=Tryz.sizeOf4
 v4:=Tryz.zeroValue4
 t5:=Tryz.underlying5
 a5:=Tryz.isAgg5
 z5:=Tryz.sizeOf5
 v5:=Tryz.zeroValue5
 t9:=Tryz.underlying9
 a9:=Tryz.isAgg9
 z9:=Tryz.sizeOf9
 v9:=Tryz.zeroValue9
 t22:=Tryz.underlying102
 a22:=Tryz.isAgg102
 z22:=Tryz.sizeOf102
 v22:=Tryz.zeroValue102
 t25:=Tryz.underlying284
 a25:=Tryz.isAgg284
 z25:=Tryz.sizeOf284
 v25:=Tryz.zeroValue284
 t39:=Tryz.underlying145
 a39:=Tryz.isAgg145
 z39:=Tryz.sizeOf145
 v39:=Tryz.zeroValue145
 t45:=Tryz.underlying202
 a45:=Tryz.isAgg202
 z45:=Tryz.sizeOf202
 v45:=Tryz.zeroValue202
 t46:=Tryz.underlying203
 a46:=Tryz.isAgg203
 z46:=Tryz.sizeOf203
 v46:=Tryz.zeroValue203
 t50:=Tryz.underlying207
 a50:=Tryz.isAgg207
 z50:=Tryz.sizeOf207
 v50:=Tryz.zeroValue207
 t53:=Tryz.underlying55
 a53:=Tryz.isAgg55
 z53:=Tryz.sizeOf55
 v53:=Tryz.zeroValue55
 t55:=Tryz.underlying188
 a55:=Tryz.isAgg188
 z55:=Tryz.sizeOf188
 v55:=Tryz.zeroValue188
 t66:=Tryz.underlying252
 a66:=Tryz.isAgg252
 z66:=Tryz.sizeOf252
 v66:=Tryz.zeroValue252
 t70:=Tryz.underlying256
 a70:=Tryz.isAgg256
 z70:=Tryz.sizeOf256
 v70:=Tryz.zeroValue256
 t76:=Tryz.underlying304
 a76:=Tryz.isAgg304
 z76:=Tryz.sizeOf304
 v76:=Tryz.zeroValue304
 t77:=Tryz.underlying237
 a77:=Tryz.isAgg237
 z77:=Tryz.sizeOf237
 v77:=Tryz.zeroValue237}
end Go.Proofs
