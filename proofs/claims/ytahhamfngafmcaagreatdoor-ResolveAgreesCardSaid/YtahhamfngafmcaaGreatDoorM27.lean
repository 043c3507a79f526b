/- The pairs of a generated policy come to few boxes. -/
import Derived.Test.YtahhamfngafmcaaGreatDoorProg
import Derived.Shelf.SlLaysF0
import Derived.Shelf.SlSortCmp.WholeK
import Derived.Shelf.SlSortCmp.NoneTotal
import Derived.Test.YtahhamfngafmcaaGreatDoorM26
set_option linter.unusedVariables false
set_option linter.unusedSimpArgs false
set_option maxRecDepth 100000
set_option maxHeartbeats 4000000
namespace Go.Proofs.YtahhamfngafmcaaGreatDoor
open Go Go.Vm
/-! ### Two boxes joined -/
/-! ### Pairs of what is cut by ranges -/
section
variable {t:Tp} {i:Nt} {A:List Bx}
end
/-! ### Sums over all pairs -/
/-! ### Real headers and two boxes -/
/-! ### All pairs -/
theorem wu_id{p:Int}(h0:0<=p)(h1:p<=4294967295):wu p=p:=by
 unfold wu;simp only[IntKind.wrap,IntKind.signed,IntKind.bits];simp;omega
noncomputable def gl17Net:Ctx:={N:=9}
noncomputable def bl17Net:Code:=bdy Tryz.f30
abbrev ofl17Net:=@ofC Tryz.prog gl17Net 30 Tryz.f30 bl17Net Tryz.func30 zk zk zk zk
noncomputable def gl17San:Ctx:={N:=69,plan:=at1 2 (some (ln [3,0,4,7,9,11,13,15])) (at1 3 (some (ln [3,0,4,7,9,11,13,15])) (at1 5 (some (ln [1,3,5,7,9,11,13,15,17,19,21,23,25,27,29,31,33,35,37,39,41,43,45,47,49,51,53,55,59,56,60,63,65,67])) (fun _=>none))),hints:=at1 2 ([.freezeB 1]) (fun _=>[])}
noncomputable def bl17San:Code:=bdy Tryz.f19
abbrev ofl17San:=@ofC Tryz.prog gl17San 19 Tryz.f19 bl17San Tryz.func19 zk zk zk zk
noncomputable def grAnD:Ctx:={N:=9}
noncomputable def brAnD:Code:=bdy Tryz.f147
abbrev ofrAnD:=@ofC Tryz.prog grAnD 147 Tryz.f147 brAnD Tryz.func147 zk zk zk zk
noncomputable def grNam1:Ctx:={N:=9}
noncomputable def brNam1:Code:=bdy Tryz.f148
abbrev ofrNam1:=@ofC Tryz.prog grNam1 148 Tryz.f148 brNam1 Tryz.func148 zk zk zk zk
noncomputable def grAnW:Ctx:={N:=9}
noncomputable def brAnW:Code:=bdy Tryz.f149
abbrev ofrAnW:=@ofC Tryz.prog grAnW 149 Tryz.f149 brAnW Tryz.func149 zk zk zk zk
noncomputable def grNam2:Ctx:={N:=9}
noncomputable def brNam2:Code:=bdy Tryz.f150
abbrev ofrNam2:=@ofC Tryz.prog grNam2 150 Tryz.f150 brNam2 Tryz.func150 zk zk zk zk
noncomputable def grBtw:Ctx:={N:=39,plan:=at1 9 (some (.one 0 true (.one 2 true (.alt 1 (ln [6,9,10]) (.alt 3 (ln [3,9,10]) (.stop)))))) (fun _=>none),hints:=at1 2 ([.virt 6 10]) (fun _=>[])}
noncomputable def brBtw:Code:=bdy Tryz.f122
abbrev ofrBtw:=@ofC Tryz.prog grBtw 122 Tryz.f122 brBtw Tryz.func122 zk zk zk zk
noncomputable def grStm:Ctx:={N:=111,cut:=at1 18 (true) (fun _=>false)}
noncomputable def brStm:Code:=bdy Tryz.f67
abbrev ofrStm:=@ofC Tryz.prog grStm 67 Tryz.f67 brStm Tryz.func67 zk zk zk zk
noncomputable def grNames:Ctx:={N:=33,lend:=at1 147 (true) (at1 149 (true) (fun _=>false))}
noncomputable def brNames:Code:=bdy Tryz.f89
abbrev ofrNames:=@ofC Tryz.prog grNames 89 Tryz.f89 brNames Tryz.func89 zk zk zk zk
noncomputable def grService:Ctx:={N:=14}
noncomputable def brService:Code:=bdy Tryz.f24
abbrev ofrService:=@ofC Tryz.prog grService 24 Tryz.f24 brService Tryz.func24 zk zk zk zk
noncomputable def grStmt:Ctx:={N:=37,plan:=at1 5 (some (ln [1,3,5,7,9,11,13,14,17,19,21,23])) (fun _=>none)}
noncomputable def brStmt:Code:=bdy Tryz.f37
abbrev ofrStmt:=@ofC Tryz.prog grStmt 37 Tryz.f37 brStmt Tryz.func37 zk zk zk zk
noncomputable def grCheck:Ctx:={N:=131}
noncomputable def brCheck:Code:=bdy Tryz.f47
abbrev ofrCheck:=@ofC Tryz.prog grCheck 47 Tryz.f47 brCheck Tryz.func47 zk zk zk zk
noncomputable def gnCpE:Ctx:={N:=28,plan:=at1 5 (some (.one 0 true (.one 1 true (.one 2 true (.one 3 true (.one 4 true (.one 7 true (.one 8 true (.one 9 true (.one 10 true (.one 11 true (.wch 5 (ln [12,24,27,28,30,33]))))))))))))) (fun _=>none),hints:=at1 6 ([.flatS 3,.virt 3 2]) (fun _=>[]),out:=true}
noncomputable def bnCpE:Code:=bdy Tryz.f48
abbrev ofnCpE:=@ofC Tryz.prog gnCpE 48 Tryz.f48 bnCpE Tryz.func48 zk zk zk zk
noncomputable def gnCpB:Ctx:={N:=55,own:=at1 48 (true) (fun _=>false),plan:=gnCpI.plan,hints:=at1 2 ([.freeze 1]) (at1 6 ([.flatB 3 2,.virtB 3 2 2]) (fun _=>[])),out:=true}
noncomputable def bnCpB:Code:=bdy Tryz.f20
abbrev ofnCpB:=@ofC Tryz.prog gnCpB 20 Tryz.f20 bnCpB Tryz.func20 zk zk zk zk
noncomputable def gnCpV:Ctx:={N:=55,own:=at1 48 (true) (fun _=>false),plan:=gnCpI.plan,hints:=at1 2 ([.freeze 1]) (at1 6 ([.flatB 3 2,.virtB 3 2 2]) (fun _=>[])),out:=true}
noncomputable def bnCpV:Code:=bdy Tryz.f20
abbrev ofnCpV:=@ofC Tryz.prog gnCpV 20 Tryz.f20 bnCpV Tryz.func20 zk zk zk zk
noncomputable def gnSpV:Ctx:={N:=272,np:=1,own:=at1 20 (true) (at1 12 (true) (at1 14 (true) (at1 42 (true) (at1 65 (true) (at1 66 (true) (fun _=>false)))))),plan:=gnSpo.plan}
noncomputable def bnSpV:Code:=bdy Tryz.f34
abbrev ofnSpV:=@ofC Tryz.prog gnSpV 34 Tryz.f34 bnSpV Tryz.func34 zk zk zk zk
noncomputable def gnSpI2:Ctx:={N:=272,np:=1,own:=at1 20 (true) (at1 12 (true) (at1 14 (true) (at1 42 (true) (at1 65 (true) (at1 66 (true) (fun _=>false)))))),plan:=gnSpo.plan,hints:=at1 37 ([.flatB 5 0]) (fun _=>[])}
noncomputable def bnSpI2:Code:=bdy Tryz.f34
abbrev ofnSpI2:=@ofC Tryz.prog gnSpI2 34 Tryz.f34 bnSpI2 Tryz.func34 zk zk zk zk
noncomputable def gnSpW:Ctx:={N:=272,np:=1,own:=at1 20 (true) (at1 12 (true) (at1 14 (true) (at1 42 (true) (at1 65 (true) (at1 66 (true) (fun _=>false)))))),plan:=gnSpo.plan,cut:=at1 37 (true) (fun _=>false)}
noncomputable def bnSpW:Code:=bdy Tryz.f34
abbrev ofnSpW:=@ofC Tryz.prog gnSpW 34 Tryz.f34 bnSpW Tryz.func34 zk zk zk zk
end Go.Proofs.YtahhamfngafmcaaGreatDoor
namespace Go.Vm
abbrev PNode:=Option Nat×Sched×Array Bool
def locP(own:FuncId->Bool)(ops:Array Oper)(q:PNode):Bool:=
 match q.1,q.2.1,q.2.2 with
 |none,.done,L=>(Region.ready .any ops L).isEmpty
 |none,.one i true rest,L=>(Region.ready .any ops L).contains i&&(Region.free .any ops L i&&(((ops[i]?).map fun o=>isQuiet o.op).getD false&&
   (((ops[i]?).map fun o=>isStill o.op).getD false||(List.range ops.size).all fun j=>L.getD j true||(((ops[j]?).map fun o=>isQuiet o.op||isMild own o.op).getD true||waitsF ops ops.size j i))))
 |none,.one i false rest,L=>decide (Region.ready .any ops L=[i])
 |none,.alt i a more,L=>decide (Region.ready .any ops L=i::more.heads)
 |some d,.alt i a more,L=>a.depth==d
 |some _,.stop,_=>true
 |none,.wch i rest,L=>(Region.ready .any ops L).contains i&&Region.free .any ops L i
 |_,_,_=>false
def kidsP(q:PNode):List PNode:=
 match q.1,q.2.1,q.2.2 with
 |none,.one i _ rest,L=>[(none,rest,L.setIfInBounds i true)]
 |none,.alt i a more,L=>[(none,a,L.setIfInBounds i true),(some a.depth,more,L)]
 |some d,.alt i a more,L=>[(none,a,L.setIfInBounds i true),(some d,more,L)]
 |none,.wch i rest,L=>[(none,rest,L.setIfInBounds i true)]
 |_,_,_=>[]
def okP(own:FuncId->Bool)(ops:Array Oper)(q:PNode):Bool:=okPlan own ops q.1 q.2.1 q.2.2
theorem okP_step{own:FuncId->Bool}{ops:Array Oper}{q:PNode}(h1:locP own ops q=true)(h2:(kidsP q).all (okP own ops)=true):okP own ops q=true:=by
 obtain⟨c,s,L⟩:=q
 unfold okP
 cases c with
 |none=>
  cases s with
  |done=>simpa[okPlan,locP]using h1
  |one i b rest=>
   cases b with
   |true=>
    simp only[locP,kidsP,List.all_cons,List.all_nil,Bool.and_true,okP,Bool.and_eq_true]at h1 h2
    simp only[okPlan,Bool.and_eq_true]
    exact⟨h1.1,h1.2.1,h1.2.2.1,h1.2.2.2,h2⟩
   |false=>
    simp only[locP,kidsP,List.all_cons,List.all_nil,Bool.and_true,okP]at h1 h2
    simp only[okPlan,Bool.and_eq_true]
    exact⟨h1,h2⟩
  |alt i a more=>
   simp only[locP,kidsP,List.all_cons,List.all_nil,Bool.and_true,okP,Bool.and_eq_true]at h1 h2
   simp only[okPlan,Bool.and_eq_true]
   exact⟨h1,h2.1,h2.2⟩
  |stop=>simp[locP]at h1
  |wch i rest=>
   simp only[locP,kidsP,List.all_cons,List.all_nil,Bool.and_true,okP,Bool.and_eq_true]at h1 h2
   simp only[okPlan,Bool.and_eq_true]
   exact⟨h1.1,h1.2,h2⟩
 |some d=>
  cases s with
  |alt i a more=>
   simp only[locP,kidsP,List.all_cons,List.all_nil,Bool.and_true,okP,Bool.and_eq_true]at h1 h2
   simp only[okPlan,Bool.and_eq_true]
   exact⟨h1,h2.1,h2.2⟩
  |stop=>rfl
  |done=>simp[locP]at h1
  |one _ _ _=>simp[locP]at h1
  |wch _ _=>simp[locP]at h1
def frontP:Nat->List PNode->List PNode
 |0,l=>l
 |n+1,l=>frontP n (l.flatMap kidsP)
def headP(own:FuncId->Bool)(ops:Array Oper):Nat->List PNode->Bool
 |0,_=>true
 |n+1,l=>l.all (locP own ops)&&headP own ops n (l.flatMap kidsP)
theorem front_ok{own:FuncId->Bool}{ops:Array Oper}:∀(n:Nat) {l:List PNode},headP own ops n l=true->(frontP n l).all (okP own ops)=true->l.all (okP own ops)=true
 |0,_,_,h=>h
 |n+1,l,h1,h2=>by
  simp only[headP,Bool.and_eq_true,List.all_eq_true]at h1
  have h3:=front_ok n h1.2 h2
  rw[List.all_eq_true]at h3⊢
  intro q hq
  refine okP_step (h1.1 q hq) (List.all_eq_true.2 fun k hk=>h3 k (List.mem_flatMap.2 ⟨q,hq,hk⟩))
def rootP(ops:Array Oper)(s:Sched):List PNode:=[(none,s,Array.replicate ops.size false)]
theorem all_cut{α:Type}{p:α->Bool}{l:List α}(k:Nat)(h1:(l.take k).all p=true)(h2:(l.drop k).all p=true):l.all p=true:=by
 rw[<-List.take_append_drop k l,List.all_append,h1,h2];rfl
theorem planOk_of{own:FuncId->Bool}{ops:Array Oper}{s:Sched}(n:Nat)(h0:(Region.noSelect ops&&s.depth==ops.size)=true)(h1:headP own ops n (rootP ops s)=true)(h2:(frontP n (rootP ops s)).all (okP own ops)=true):planOk own ops s=true:=by
 have h:=front_ok n h1 h2
 simp only[rootP,List.all_cons,List.all_nil,Bool.and_true,okP]at h
 simp only[Bool.and_eq_true]at h0
 simp only[planOk,Bool.and_eq_true]
 exact⟨h0.1,h0.2,h⟩
def regOf(i:Nat):Code->Option (Array Oper)
 |.region id ops _=>match Nat.beq id i with
  |true=>some ops
  |false=>none
 |.seq a b=>match regOf i a with
  |some x=>some x
  |none=>regOf i b
 |.cond _ a b=>match regOf i a with
  |some x=>some x
  |none=>regOf i b
 |.block _ b=>regOf i b
 |.loop b=>regOf i b
 |.scope b=>regOf i b
 |_=>none
def regO(i:Nat)(c:Code):Array Oper:=match regOf i c with
 |some x=>x
 |none=>#[]
def plnO(Γ:Ctx)(i:Nat):Sched:=match Γ.plan i with
 |some s=>s
 |none=>.stop
end Go.Vm
namespace Go.Proofs.YtahhamfngafmcaaGreatDoor
open Go Go.Vm
noncomputable def gl17Nms:Ctx:={N:=8,np:=1,own:=at1 12 (true) (fun _=>false)}
noncomputable def bl17Nms:Code:=bdy Tryz.f26
abbrev ofl17Nms:=@ofC Tryz.prog gl17Nms 26 Tryz.f26 bl17Nms Tryz.func26 zk zk zk zk
end Go.Proofs.YtahhamfngafmcaaGreatDoor
namespace Go.Proofs
open Go.Shelf
def Tryz.sortR_ren:Go.Shelf.Ren:=⟨fun|6=>185|15=>208|14=>207|28=>229|29=>230|20=>221|21=>222|22=>223|23=>224|24=>225|25=>226|26=>227|27=>228|46=>239|47=>240|48=>241|49=>242|50=>243|57=>249|n=>n,fun|22=>45|24=>54|25=>218|3=>3|39=>118|0=>0|53=>23|55=>115|4=>4|46=>237|45=>236|50=>241|5=>5|9=>9|66=>253|70=>257|76=>264|77=>172|n=>n,fun|n=>n⟩
theorem Tryz.sortR:Go.Proofs.SlLaysF0.n6 Tryz.prog Tryz.sortR_ren:={
 mixed:=by kernel_rfl
 f6:=⟨Tryz.f185.name,by decide,Tryz.func185.trans (congrArg some (by kernel_rfl))⟩
 f14:=⟨Tryz.f207.name,by decide,Tryz.func207.trans (congrArg some (by kernel_rfl))⟩
 f15:=Tryz.func208.trans (congrArg some (by kernel_rfl))
 f20:=⟨Tryz.f221.name,by decide,Tryz.func221.trans (congrArg some (by kernel_rfl))⟩
 f21:=⟨Tryz.f222.name,by decide,Tryz.func222.trans (congrArg some (by kernel_rfl))⟩
 f22:=⟨Tryz.f223.name,by decide,Tryz.func223.trans (congrArg some (by kernel_rfl))⟩
 f23:=⟨Tryz.f224.name,by decide,Tryz.func224.trans (congrArg some (by kernel_rfl))⟩
 f24:=⟨Tryz.f225.name,by decide,Tryz.func225.trans (congrArg some (by kernel_rfl))⟩
 f25:=⟨Tryz.f226.name,by decide,Tryz.func226.trans (congrArg some (by kernel_rfl))⟩
 f26:=⟨Tryz.f227.name,by decide,Tryz.func227.trans (congrArg some (by kernel_rfl))⟩
 f27:=⟨Tryz.f228.name,by decide,Tryz.func228.trans (congrArg some (by kernel_rfl))⟩
 f28:=Tryz.func229.trans (congrArg some (by kernel_rfl))
 f29:=Tryz.func230.trans (congrArg some (by kernel_rfl))
 f46:=⟨Tryz.f239.name,by decide,Tryz.func239.trans (congrArg some (by kernel_rfl))⟩
 f47:=Tryz.func240.trans (congrArg some (by kernel_rfl))
 f48:=Tryz.func241.trans (congrArg some (by kernel_rfl))
 f49:=⟨Tryz.f242.name,by decide,Tryz.func242.trans (congrArg some (by kernel_rfl))⟩
 f50:=⟨Tryz.f243.name,by decide,Tryz.func243.trans (congrArg some (by kernel_rfl))⟩
 f57:=⟨Tryz.f249.name,by decide,Tryz.func249.trans (congrArg some (by kernel_rfl))⟩
 t0:=Tryz.underlying0
 a0:=Tryz.isAgg0
 z0:=Tryz.sizeOf0
 v0:=Tryz.zeroValue0
 t3:=Tryz.underlying3
 a3:=Tryz.isAgg3
 z3:=Tryz.sizeOf3
 v3:=Tryz.zeroValue3
 t4:=Tryz.underlying4
 a4:=Tryz.isAgg4
 z4:=Tryz.sizeOf4
 v4:=Tryz.zeroValue4
 t5:=Tryz.underlying5
 a5:=Tryz.isAgg5
 z5:=Tryz.sizeOf5
 v5:=Tryz.zeroValue5
 t9:=Tryz.underlying9
 a9:=Tryz.isAgg9
 z9:=Tryz.sizeOf9
 v9:=Tryz.zeroValue9
 t22:=Tryz.underlying45
 a22:=Tryz.isAgg45
 z22:=Tryz.sizeOf45
 v22:=Tryz.zeroValue45
 t25:=Tryz.underlying218
 a25:=Tryz.isAgg218
 z25:=Tryz.sizeOf218
 v25:=Tryz.zeroValue218
 t39:=Tryz.underlying118
 a39:=Tryz.isAgg118
 z39:=Tryz.sizeOf118
 v39:=Tryz.zeroValue118
 t45:=Tryz.underlying236
 a45:=Tryz.isAgg236
 z45:=Tryz.sizeOf236
 v45:=Tryz.zeroValue236
 t46:=Tryz.underlying237
 a46:=Tryz.isAgg237
 z46:=Tryz.sizeOf237
 v46:=Tryz.zeroValue237
 t50:=Tryz.underlying241
 a50:=Tryz.isAgg241
 z50:=Tryz.sizeOf241
 v50:=Tryz.zeroValue241
 t53:=Tryz.underlying23
 a53:=Tryz.isAgg23
 z53:=Tryz.sizeOf23
 v53:=Tryz.zeroValue23
 t55:=Tryz.underlying115
 a55:=Tryz.isAgg115
 z55:=Tryz.sizeOf115
 v55:=Tryz.zeroValue115
 t66:=Tryz.underlying253
 a66:=Tryz.isAgg253
 z66:=Tryz.sizeOf253
 v66:=Tryz.zeroValue253
 t70:=Tryz.underlying257
 a70:=Tryz.isAgg257
 z70:=Tryz.sizeOf257
 v70:=Tryz.zeroValue257
 t76:=Tryz.underlying264
 a76:=Tryz.isAgg264
 z76:=Tryz.sizeOf264
 v76:=Tryz.zeroValue264
 t77:=Tryz.underlying172
 a77:=Tryz.isAgg172
 z77:=Tryz.sizeOf172
 v77:=Tryz.zeroValue172}
end Go.Proofs
namespace Go.Vm
open Go.Sort Go.Proofs Go.Shelf
theorem rep_none(W:World)(hg:GlobOk (fun _=>False) W):Rep noInj (fun _=>False) W ([]:List Obj).length (enumH 0 []):=
 ⟨fun _ _=>rfl,fun id o hg=>by simp[enumH,get]at hg,fun id id' o o' b base base' hg=>by simp[enumH,get]at hg,fun b hb=>hb.elim,hg⟩
theorem grow_of_ext{W w':World}{ι':Inj}{h':Hp}{E':Nat->Prop}(x:Ext noInj (enumH 0 []) (fun _=>False) W ι' h' E' w'):∃q os',w'=grow (W.drewN q) os':=by
 have hno:∀b,¬Own noInj (enumH 0 []) b:=fun b ⟨id,o,base,hg,_⟩=>by simp[enumH,get]at hg
 refine⟨w'.drawn-W.drawn,w'.heap.extract W.heap.size w'.heap.size,?_⟩
 have hh:w'.heap=W.heap++w'.heap.extract W.heap.size w'.heap.size:=by
  apply Array.ext_getElem?
  intro i
  rw[Array.getElem?_append]
  split
  ·rename_i hi
   exact(x.old i hi (hno i)).1
  ·rename_i hi
   rw[Array.getElem?_extract]
   have hsz:=x.size
   split
   ·congr 1;omega
   ·rw[Array.getElem?_eq_none];omega
 have hd:=x.drawn
 have h1:=x.os;have h2:=x.tape;have h3:=x.output
 cases w'
 cases W
 simp only[grow,World.drewN]at*
 subst h1;subst h2;subst h3
 congr 1
 omega
section
variable {P:Program} {α:Type} [Inhabited α]
theorem cmpLays_of{g:Nat}{enc:α->List Value}{k:Nat}{cf:α->α->Int}{blk off size:Nat}{w:World}(hgl:∀(m:Nat) (os:Array Go.Obj) (dk:Array α),GlobOk (fun _=>False) (sortWorldK enc k w blk off m dk os))
  (h:∀x y:α,ACall P g [.agg ((enc x).map .v),.agg ((enc y).map .v)] [] fun r hs=>r=.v (.int .i64 (cf x y))/\hs=[]):CmpLays P g #[] enc k cf blk off size w:=by
 intro m os dk _ x y
 have hgW:=hgl m os dk
 generalize sortWorldK enc k w blk off m dk os=W at hgW⊢
 obtain⟨_,h2⟩:=(h x y).elim
 have one:∀z:α,Rel (fun _=>False) W noInj (.agg ((enc z).map .v)) (.agg (enc z).toArray):=fun z=>
  .agg _ _ zx (fun i a b ha hb=>by
   have hb':(enc z)[i]? =some b:=by simpa using hb
   rw[List.getElem?_map,hb']at ha
   cases ha
   exact .v _)
 have hv:RL (fun _=>False) W noInj [.agg ((enc x).map .v),.agg ((enc y).map .v)] #[.agg (enc x).toArray,.agg (enc y).toArray]:=RL.cons (one x) (RL.cons (one y) rl_nil)
 rw[Array.append_empty]
 refine(h2 noInj _ W _ (rep_none W hgW) hv).mono ?_
 rintro e w' ⟨v,rv,hs',ι',E',rfl,⟨rfl,rfl⟩,_,hr,x⟩
 cases hr
 exact⟨rfl,grow_of_ext x⟩
variable {E:Nat->Prop} {w:World} {ι:Inj} {n:Nat} {h:Hp}
theorem GlobOk.none{E:Nat->Prop}{w:World}(h:GlobOk E w):GlobOk (fun _=>False) w:=fun g cs hg=>by
 obtain⟨_,h2,h3⟩:=h g cs hg
 exact⟨fun f=>f,h2,h3⟩
theorem glob_grow{E:Nat->Prop}{w:World}(h:GlobOk E w)(m:Nat)(os:Array Go.Obj):GlobOk E (grow (Sort.ahead w m) os):=fun g cs hg=>by
 obtain⟨h1,h2,h3⟩:=h g cs hg
 refine⟨h1,?_,fun j y hy=>?_⟩
 ·rw[size_grow];exact Nat.lt_of_lt_of_le h2 (Nat.le_add_right _ _)
 ·rw[cell_of_heap (a:=⟨g,j,Option.none⟩) (heap_grow_old (Sort.ahead w m) os h2)];exact h3 j y hy
theorem rep_grow(r:Rep ι E w n h)(m:Nat)(os:Array Go.Obj):Rep ι E (grow (Sort.ahead w m) os) n h/\Ext ι h E w ι h E (grow (Sort.ahead w m) os):=by
 have hh:∀b,b<w.heap.size->(grow (Sort.ahead w m) os).heap[b]? =w.heap[b]? :=fun b hb=>heap_grow_old (Sort.ahead w m) os hb
 have hsz:w.heap.size<=(grow (Sort.ahead w m) os).heap.size:=by rw[size_grow];exact Nat.le_add_right _ _
 have hc:∀a:Addr,a.block<w.heap.size->(grow (Sort.ahead w m) os).cell? a=w.cell? a:=fun a ha=>cell_of_heap (hh _ ha)
 have hf:∀a:Addr,a.block<w.heap.size->(grow (Sort.ahead w m) os).frozen? a=w.frozen? a:=fun a ha=>by simp only[World.frozen?,hh _ ha]
 have hk:Keeps E w E (grow (Sort.ahead w m) os):=⟨hsz,fun b hb hE=>⟨hh b hb,hE⟩,fun a ha=>by rw[hc a (lt_of_cell ha)];exact ha,fun a ha=>hf a (lt_of_cell ha)⟩
 exact⟨⟨r.fresh,fun id o hg=>(r.obj id o hg).keep hk (fun _ _ h=>h) (fun b base hb=>r.own_E ⟨id,o,base,hg,hb⟩) (fun b base hb=>hh b (own_ne r hg hb)),r.sep,fun b hb=>Nat.lt_of_lt_of_le (r.bound b hb) hsz,r.glob.keep hk⟩,
  ⟨rfl,rfl,rfl,hsz,fun _ _ h=>h,fun b hb _=>⟨hh b hb,Iff.rfl⟩,fun _ _ h=>h,fun a ha=>by rw[hc a (lt_of_cell ha)];exact ha,fun a ha=>hf a ha,by show w.drawn<=w.drawn+m;omega⟩⟩
theorem cell?_putCells(d:Array Value)(w:World)(b off:Nat)(a:Addr)(h:(w.cell? a).isSome=true):((putRow id w b off d).cell? a).isSome=true:=by
 by_cases hb:a.block=b
 ·subst hb
  unfold putRow mapBlock
  simp only[World.cell?,Array.getElem?_modify,if_true]at h⊢
  cases hw:w.heap[a.block]? with
  |none=>simp[hw]at h
  |some o=>
   cases o with
   |cells c e fr=>
    simp only[hw,Option.map_some,onCells]at h⊢
    split at h
    ·simp at h
    ·rename_i hs
     simp only[hs]
     simp only[Bool.false_eq_true,if_false]at h⊢
     rw[Option.isSome_iff_exists]at h⊢
     obtain⟨v,hv⟩:=h
     have hlt:=(Array.getElem?_eq_some_iff.1 hv).1
     exact⟨_,Array.getElem?_eq_getElem (by simpa[putCells]using hlt)⟩
   |_=>simp[hw]at h
 ·rw[show(putRow id w b off d).cell? a=w.cell? a from cell?_putRow_other id w b off d a (Or.inl hb)];exact h
theorem frozen_putRow(d:Array Value)(w:World)(b off:Nat)(a:Addr):(putRow id w b off d).frozen? a=w.frozen? a:=by
 unfold putRow mapBlock World.frozen?
 simp only[Array.getElem?_modify]
 by_cases hb:b=a.block
 ·subst hb
  simp only[if_true]
  cases w.heap[a.block]? with
  |none=>rfl
  |some o=>cases o<;>rfl
 ·simp[hb]
theorem writes_putRow(d:Array Value)(w:World)(b off:Nat):Writes w b (putRow id w b off d):=
 ⟨rfl,rfl,rfl,by simp,fun k hk=>by simp[putRow,mapBlock,Array.getElem?_modify,Ne.symm hk],fun a ha=>cell?_putCells d w b off a ha,fun a=>frozen_putRow d w b off a,rfl⟩
theorem sort_of{f g k:Nat}{enc:α->List Value}{encA:α->AV}{cf:α->α->Int}(hok:okFn P f=true)(hk:∀x,(enc x).length=k)(henc:∀x,(encA x).cells=(enc x).map .v)
  (hsort:∀(blk off cap:Nat) (d:Array α) (w:World),HoldsK enc k w blk off d->blk<w.heap.size->d.size<4611686018427387904->(∀(m:Nat) (os:Array Go.Obj) (dk:Array α),GlobOk (fun _=>False) (sortWorldK enc k w blk off m dk os))->
   Calls P f #[.slice (some ⟨blk,off,none⟩) d.size cap,.func (.func g) #[] #[]] w fun e w'=>e=.returned (.tuple #[])/\∃d' n os,PermIn 0 d.size d d'/\SortedIn (ltOf cf) 0 d.size d'/\w'=sortWorldK enc k w blk off n d' os)
  (hnone:∀(p:Option Addr) (cap:Nat) (fv:Value) (w:World),Calls P f #[.slice p 0 cap,fv] w fun e w'=>e=.returned (.tuple #[])/\w'=w)
  {d:List α}{len:Nat}(hlen:len=d.length)(hd:d.length<4611686018427387904){K:KT}
  (hK:∀d':List α,d'.Perm d->d'.Pairwise (fun x y=>ltOf cf y x=false)->K (.tup []) [.arr k (d'.map encA)]):
  ACall P f [.os 0 k 0 len,.fn (.func g) [] []] [.arr k (d.map encA)] K:=by
 refine ACall.intro hok fun ι E w vals r hv=>?_
 obtain⟨v0,vs,rfl,hv0,hv⟩:=hv.head
 obtain⟨v1,vs,e1,hv1,hv2⟩:=hv.head
 cases e1
 have hvs:vs=[]:=by have:=hv2.nil;simpa using this
 subst hvs
 have hfn:v1=.func (.func g) #[] #[]:=by
  cases hv1 with
  |fn _ _ _ F C hF hC _ _=>
   simp only[List.length_nil]at hF hC
   rw[Array.eq_empty_of_size_eq_zero hF.symm,Array.eq_empty_of_size_eq_zero hC.symm]
 subst hfn
 have hg:get (enumH 0 [.arr k (d.map encA)]) 0=some (.arr k (d.map encA)):=rfl
 rcases Nat.eq_zero_or_pos d.length with h0|h0
 ·have hd0:d=[]:=List.eq_nil_of_length_eq_zero h0
  subst hd0
  have hz:∃p cap,v0=.slice p 0 cap:=by
   subst hlen
   cases hv0 with
   |osz _ _ _ a=>exact⟨a,0,rfl⟩
   |os _ _ _ _ b base cap hι hc h=>exact⟨_,cap,rfl⟩
  obtain⟨p,cap,rfl⟩:=hz
  refine(hnone p cap _ w).mono ?_
  rintro e w' ⟨rfl,rfl⟩
  exact⟨_,.tup [],[.arr k []],ι,E,rfl,hK [] (List.Perm.refl _) List.Pairwise.nil,r,.tup [] #[] rfl (fun i x y hx _=>by simp at hx),Ext.refl⟩
 ·have hpos:0<len:=by omega
  cases hv0 with
  |osz _ _ _ a=>omega
  |os _ _ _ _ b base cap hι hc hcell=>
   have hsz:=sz_of r hg
   rcases r.obj 0 _ hg with⟨h1,_⟩|⟨b',base',h1,h2,h3,h4,h5⟩
   ·rw[hι]at h1;cases h1
   ·rw[hι]at h1;cases h1
    have hbang:∀{l:List α} {i:Nat} (hi:i<l.length),l.toArray[i]! =l[i]:=fun {l i} hi=>by simp[hi]
    have hH:HoldsK enc k w b base d.toArray:=by
     intro t ht
     have ht':t<d.toArray.size*k:=by simpa using ht
     have kp:0<k:=by
      rcases Nat.eq_zero_or_pos k with h0|h0
      ·subst h0;simp at ht'
      ·exact h0
     have hi:t/k<d.length:=by
      rw[Nat.div_lt_iff_lt_mul kp];simpa using ht'
     have hc:=Nat.mod_lt t kp
     rw[get_flatK _ _ _ _ ht',hbang hi]
     have hxi:(d.map encA)[t/k]? =some (encA d[t/k]):=by simp[hi]
     have hcl:(enc d[t/k])[t%k]? =some ((enc d[t/k])[t%k]'(by rw[hk];exact hc)):=List.getElem?_eq_getElem _
     have hcc:(encA d[t/k]).cells[t%k]? =some (.v ((enc d[t/k])[t%k]'(by rw[hk];exact hc))):=by rw[henc,List.getElem?_map,hcl];rfl
     obtain⟨u,e1,e2,e3⟩:=h5 _ _ _ _ hxi hcc
     have hu:u=(enc d[t/k])[t%k]'(by rw[hk];exact hc):=by cases e3;rfl
     have hoff:base+t/k*k+t%k=base+t:=by
      have:=Nat.div_add_mod t k
      rw[Nat.mul_comm]at this
      omega
     rw[hoff]at e1 e2
     refine⟨?_,e2⟩
     rw[e1,hu,getElem!_pos (enc d[t/k]) (t%k) (by rw[hk];exact hc)]
     rfl
    have hgl:∀(m:Nat) (os:Array Go.Obj) (dk:Array α),GlobOk (fun _=>False) (sortWorldK enc k w b base m dk os):=fun m os dk=>by
     have g1:=r.glob.keep ((writes_putRow (Go.Sort.flatK enc k dk) w b base).keeps h2)
     exact(glob_grow g1 m os).none
    have h:=hsort b base cap d.toArray w hH h3 (by simpa using hd) hgl
    rw[show base+0*k=base by omega,hlen,show d.length=d.toArray.size by simp]
    refine h.mono ?_
    rintro e w' ⟨rfl,d',m,os,hp,hs,rfl⟩
    obtain⟨p1,p2,p3⟩:=hp
    have hd':d'.size=d.length:=by simpa using p1
    have hH':=holdsK_sortWorldK_c enc k w b base d.toArray d' m os hH h3 p1
    have hperm:d'.toList.Perm d:=by
     have e1:(d'.extract 0 d.toArray.size)=d':=by rw[<-p1];simp
     rw[e1]at p3
     simpa using p3
    refine⟨_,.tup [],[.arr k (d'.toList.map encA)],ι,E,rfl,hK _ hperm ?_,?_⟩
    ·rw[List.pairwise_iff_getElem]
     intro i j hi hj hij
     have:=hs i j (Nat.zero_le _) hij (by simp at hj;simpa[<-hd']using hj)
     simp at hi hj
     rw[getElem!_pos d' i hi,getElem!_pos d' j hj]at this
     simpa using this
    · -- the world: drawn on, the row put, blocks laid behind
      have e0:sortWorldK enc k w b base m d' os=grow (Sort.ahead (putRow id w b base (Go.Sort.flatK enc k d')) m) os:=rfl
      have ho:ORel E (putRow id w b base (Go.Sort.flatK enc k d')) ι 0 (.arr k (d'.toList.map encA)):=by
       refine .inr ⟨b,base,hι,h2,by simpa using h3,fun i x hx=>?_,fun i x j c hx hc=>?_⟩
       ·rw[List.getElem?_map,Option.map_eq_some_iff]at hx
        obtain⟨y,_,rfl⟩:=hx
        rw[henc,List.length_map,hk]
       ·rw[List.getElem?_map,Option.map_eq_some_iff]at hx
        obtain⟨y,hy,rfl⟩:=hx
        rw[henc,List.getElem?_map,Option.map_eq_some_iff]at hc
        obtain⟨u,hu,rfl⟩:=hc
        have hi:i<d'.size:=by have:=(List.getElem?_eq_some_iff.1 hy).1;simpa using this
        have hj:j<k:=by have:=(List.getElem?_eq_some_iff.1 hu).1;rwa[hk]at this
        have hHp:=holdsK_putRowK enc k w b base d.toArray d' hH p1
        have:=HoldsK.cell hHp hi hj
        have ey:d'[i]! =y:=by
         rw[getElem!_pos d' i hi]
         have:d'.toList[i]? =some d'[i]:=by simp[hi]
         rw[this]at hy;exact Option.some.inj hy
        rw[ey,getElem!_pos (enc y) j (by rw[hk];exact hj)]at this
        have eu:(enc y)[j]'(by rw[hk];exact hj)=u:=by
         rw[List.getElem?_eq_getElem (by rw[hk];exact hj)]at hu;exact Option.some.inj hu
        rw[eu]at this
        exact⟨u,this.1,this.2,.v _⟩
      have hput:=step_put (h0:=[]) r (fun id o hg=>by simp[get]at hg) hg hι rfl (writes_putRow (Go.Sort.flatK enc k d') w b base) (fun _ _ h=>h) hι (fun _ _=>rfl) (Nat.le_refl _) r.fresh ho rfl
      have hgr:=rep_grow hput.1 m os
      rw[e0]
      exact⟨hgr.1,.tup [] #[] rfl (fun i x y hx _=>by simp at hx),hput.2.trans hgr.2⟩
end
end Go.Vm
namespace Go.Proofs.YtahhamfngafmcaaGreatDoor
open Go Go.Vm Go.Sort Go.Shelf Go.Proofs
instance:Inhabited Rg:=⟨⟨0,0,by decide,by decide,by decide,by decide⟩⟩
def encV(r:Rg):List Value:=[.int .u32 r.lo,.int .u32 r.hi]
def cmpR(r s:Rg):Int:=cmpI r.lo s.lo
theorem ltR(r s:Rg):ltOf cmpR r s=decide (r.lo<s.lo):=by
 unfold ltOf cmpR cmpI
 by_cases h1:r.lo<s.lo
 ·simp[h1]
 ·by_cases h2:s.lo<r.lo<;>simp[h1,h2]
theorem swoR:SWO (ltOf cmpR) where
 irrefl x:=by rw[ltR];simp
 trans x y z h1 h2:=by rw[ltR]at*;simp at*;omega
 ntrans x y z h1 h2:=by rw[ltR]at*;simp at*;omega
theorem sorts:Sorts:=by
 intro d n hn hd K hK
 have eg:∀args w,(callFunc 186 args).run Tryz.prog w=.ok (.enter 186 args) w:=enters_of Tryz.func186 zk rfl
 refine sort_of (k:=2) (enc:=encV) (encA:=encR) (cf:=cmpR) zk (fun _=>rfl) (fun _=>rfl) (fun blk off cap d w hH hb hs hgl=>?_) (fun p cap fv w=>?_) hn zo (fun d' hp hs=>hK d' hp (hs.imp fun h=>?_))
 ·exact AnyQ.slices_SortFunc Tryz.sortR 2 Tryz.isAgg54 Tryz.sizeOf54 encV (fun _=>rfl) (fun x v hv=>by simp[encV]at hv;rcases hv with rfl|rfl<;>rfl) cmpR swoR 186 #[] blk off cap d w eg
   (cmpLays_of hgl fun x y=>c47 x y ⟨rfl,rfl⟩) hH hb hs
 ·exact AnyF.slices_SortFunc_none Tryz.sortR p cap fv w
 ·rw[ltR]at h;simp at h;omega
end Go.Proofs.YtahhamfngafmcaaGreatDoor
