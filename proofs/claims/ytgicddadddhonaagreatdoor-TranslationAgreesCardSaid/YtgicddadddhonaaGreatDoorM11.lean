/- Lemmas. -/
import Derived.LaidMore
import Derived.OpenShut
import Derived.Lib.LaidTab
import Derived.ChangeSame
import Derived.Test.YtgicddadddhonaaGreatDoorRows
import Derived.Test.YtgicddadddhonaaGreatDoorCards
import Derived.Test.YtgicddadddhonaaGreatDoorTie
import Derived.Stop.LaidErr
import Derived.Stop.Joined
import Derived.SevenTiedAt
import Derived.Test.YtgicddadddhonaaGreatDoorProg
import Derived.Test.YtgicddadddhonaaGreatDoorM10
set_option linter.unusedVariables false
set_option linter.unusedSimpArgs false
set_option maxRecDepth 100000
set_option maxHeartbeats 4000000
noncomputable section
namespace Go.Proofs.YtgicddadddhonaaGreatDoor
open Go Go.Vm Go.ChangeShapes
def Uz{H:Type}(zs:List (Int×Int)):DataW H:=.agg (zs.map fun z=>.agg [.lit (.int .u32 z.1),.lit (.int .u32 z.2)])
def Ee(zs:List (Int×Int)):List Value:=zs.flatMap fun z=>[Value.int .u32 z.1,Value.int .u32 z.2]
def PairsAre(P:Program)(w:World)(name:String)(zs:List (Int×Int)):Prop:=w.var? P name=some (Ee zs).toArray
theorem Xm:∀(zs:List (Int×Int)) (cs:List Value),cs.length=zs.length*2->(∀(i:Nat) z,zs[i]? =some z->(cs.drop (i*2)).take 2=[.int .u32 z.1,.int .u32 z.2])->cs=Ee zs
 |[],cs,hl,_=>cT.1 (by simpa using hl)
 |z::zs,cs,hl,h=>by
  have h0:=h 0 z rfl;rw[fF,bP]at h0
  match cs,hl,h,h0 with
  |[],hl,_,_=>simp at hl
  |[a],hl,_,_=>simp only[aB,aI]at hl;omega
  |a::b::cs,hl,h,h0=>
   simp only[gK,cA,List.cons.injEq,and_true]at h0;obtain⟨rfl,rfl⟩:=h0;have:=Xm zs cs (by simp only[aB]at hl;omega) fun i y hy=>by
    have:=h (i+1) y (by simpa using hy);rw[show(i+1)*2=i*2+2 by omega,List.drop_succ_cons,List.drop_succ_cons]at this;exact this
   rw[this];rfl
theorem Nv{H:Type}{enc:TypeId×Value->H}{P:Program}{w:World}{base:Nat}{sp:Nat->Bool}{held:Bool}{fuel:Nat}{t e:TypeId}{n:Nat}{f0 f1:Field}{cs:List Value}{zs:List (Int×Int)}{p:List MemPlace}
  (ht:P.underlying t=some (.array n e))(he:P.underlying e=some (.struct #[f0,f1]))(h0:P.underlying f0.type=some (.int .u32))(h1:P.underlying f1.type=some (.int .u32))(c0:P.cellsOf f0.type=1)(c1:P.cellsOf f1.type=1)(o0:f0.offset=0)(o1:f1.offset=1)
  (hce:P.cellsOf e=2)(hct:P.cellsOf t=n*2)(h:DataW.trod enc P w base sp held fuel t cs=some (Uz zs,p)):cs=Ee zs:=by
 cases fuel with
 |zero=>simp[DataW.trod]at h
 |succ fuel=>
  simp only[DataW.trod,ht,hce,hct]at h;split at h
  ·rename_i hl;obtain⟨xs,hm,hx⟩:=bW.1 h;have hxs:xs.map (·.1)=zs.map fun z=>(DataW.agg [.lit (.int .u32 z.1),.lit (.int .u32 z.2)]:DataW H):=by
    have:=congrArg Prod.fst hx;simpa[Uz]using this
   have hxl:xs.length=n:=by simpa using Lib.mapM_length hm
   have hzl:zs.length=n:=by
    have:=congrArg List.length hxs;simp at this;omega
   refine Xm zs cs zo fun i z hz=>?_;have hi:i<n:=by
    have:=(aP.1 hz).1;omega
   obtain⟨b,hb,hf⟩:=Lib.mapM_at hm i i (by simp[hi]);obtain⟨y0,y1,m,rfl,_,g0,g1⟩:=trod_struct2 he hf;obtain⟨a0,d0,rfl,_⟩:=DataW.trod_int h0 g0;obtain⟨a1,d1,rfl,_⟩:=DataW.trod_int h1 g1;have h2:(xs.map (·.1))[i]? =some (DataW.agg [.lit (.int .u32 a0),.lit (.int .u32 a1)]:DataW H):=by simp[hb]
   rw[hxs,bX,hz]at h2;simp only[dG,bN,DataW.agg.injEq,List.cons.injEq,DataW.lit.injEq,Lit.int.injEq,true_and,and_true]at h2;obtain⟨rfl,rfl⟩:=h2;rw[o0,c0]at d0;rw[o1,c1]at d1;have hL:((cs.drop (i*2)).take 2).length<=2:=List.length_take_le ..;generalize (cs.drop (i*2)).take 2=L at*
   match L,d0,d1,hL with
   |[],d0,_,_=>simp at d0
   |[u],_,d1,_=>simp at d1
   |[u,v],d0,d1,_=>
    simp at d0 d1;rw[d0,d1]
   |u::v::x::r,_,_,hL=>simp only[aB]at hL;omega
  ·cases h
theorem Fu{P:Program}{W:World}{name:String}{zs:List (Int×Int)}{rest:List (String×DataW Unit)}{g:Nat}{t e:TypeId}{n:Nat}{f0 f1:Field}
  (hg:P.globalNamed name=some g)(hty:(P.globals[g]?).map (·.type)=some t)(ht:P.underlying t=some (.array n e))(he:P.underlying e=some (.struct #[f0,f1]))(h0:P.underlying f0.type=some (.int .u32))(h1:P.underlying f1.type=some (.int .u32))(c0:P.cellsOf f0.type=1)(c1:P.cellsOf f1.type=1)(o0:f0.offset=0)(o1:f1.offset=1)
  (hce:P.cellsOf e=2)(hct:P.cellsOf t=n*2)(h:laidMet P ((name,Uz zs)::rest) W):PairsAre P W name zs:=by
 obtain⟨ps,⟨g',t',cs,fuel,p,q,hg',ht',hvar,hd,_,_⟩,_⟩:=h;obtain rfl:=bB (hg.symm.trans hg');obtain rfl:=bB (hty.symm.trans ht');unfold PairsAre;rw[hvar,<-Nv ht he h0 h1 c0 c1 o0 o1 hce hct hd]
theorem PairsAre.cell{P:Program}{W:World}{name:String}{zs:List (Int×Int)}{g:Nat}(h:PairsAre P W name zs)(hg:P.globalNamed name=some g)(i:Nat)(hi:i<(Ee zs).length)(v:Value)(hv:(Ee zs)[i]? =some v):
  W.cell? ⟨g,i,none⟩=some v:=by
 have:=World.var?_cell hg h i;simpa[hv]using this
open Go Go.Vm Go.ChangeShapes Go.WideShapes Go.ChangeAt Go.RowKit
theorem sS{ts:List TypeId}(h:(ts.all fun t=>Tryz.prog.wantsStandIn t==false)=true){t:TypeId}(ht:t∈ts):Tryz.prog.wantsStandIn t=false:=by
 have:=bT.1 h t ht;simpa using this
theorem bytes_inj{a b:ByteArray}(h:a.data.toList=b.data.toList):a=b:=by
 cases a;cases b;simp only[ByteArray.mk.injEq];exact Array.toList_inj.1 h
def Pn{H:Type}(ss:List ByteArray):DataW H:=.agg (ss.map fun s=>.lit (.string s.data.toList))
def StrsAre(P:Program)(w:World)(name:String)(ss:List ByteArray):Prop:=w.var? P name=some (ss.map fun s=>Value.string s).toArray
theorem Kr{H:Type}{enc:TypeId×Value->H}{P:Program}{w:World}{base:Nat}{sp:Nat->Bool}{held:Bool}{fuel:Nat}{t e:TypeId}{n:Nat}{cs:List Value}{ss:List ByteArray}{p:List MemPlace}
  (ht:P.underlying t=some (.array n e))(he:P.underlying e=some .string)(hce:P.cellsOf e=1)(hct:P.cellsOf t=n)
  (h:DataW.trod enc P w base sp held fuel t cs=some (Pn ss,p)):cs=ss.map fun s=>Value.string s:=by
 cases fuel with
 |zero=>simp[DataW.trod]at h
 |succ fuel=>
  simp only[DataW.trod,ht,hce,hct,gG]at h;split at h
  ·rename_i hl;obtain⟨xs,hm,hx⟩:=bW.1 h;have hxs:xs.map (·.1)=ss.map fun s=>(DataW.lit (.string s.data.toList):DataW H):=by
    have:=congrArg Prod.fst hx;simpa[Pn]using this
   have hxl:xs.length=n:=by simpa using Lib.mapM_length hm
   have hzl:ss.length=n:=by
    have:=congrArg List.length hxs;simp at this;omega
   apply List.ext_getElem?;intro i;by_cases hi:i<n
   ·obtain⟨b,hb,hf⟩:=Lib.mapM_at hm i i (by simp[hi]);obtain⟨z,hc,rfl,_⟩:=DataW.trod_string he hf;have h1:cs[i]? =some (.string z):=by
     have:=congrArg (·[0]?) hc;simpa[cZ,cJ]using this
    have h2:(xs.map (·.1))[i]? =some (DataW.lit (.string z.data.toList):DataW H):=by simp[hb]
    rw[hxs]at h2;simp only[bX,bW,DataW.lit.injEq,Lit.string.injEq]at h2;obtain⟨z',hz',e⟩:=h2;rw[h1,bX,hz',bytes_inj e];rfl
   ·rw[bS zo,bS (by simp;omega)]
  ·cases h
theorem Hr{P:Program}{W:World}{name:String}{ss:List ByteArray}{rest:List (String×DataW Unit)}{g:Nat}{t e:TypeId}{n:Nat}
  (hg:P.globalNamed name=some g)(hty:(P.globals[g]?).map (·.type)=some t)(ht:P.underlying t=some (.array n e))(he:P.underlying e=some .string)(hce:P.cellsOf e=1)(hct:P.cellsOf t=n)
  (h:laidMet P ((name,Pn ss)::rest) W):StrsAre P W name ss:=by
 obtain⟨ps,⟨g',t',cs,fuel,p,q,hg',ht',hvar,hd,_,_⟩,_⟩:=h;obtain rfl:=bB (hg.symm.trans hg');obtain rfl:=bB (hty.symm.trans ht');unfold StrsAre;rw[hvar,<-Kr ht he hce hct hd]
theorem StrsAre.cell{P:Program}{W:World}{name:String}{ss:List ByteArray}{g:Nat}(h:StrsAre P W name ss)(hg:P.globalNamed name=some g)(i:Nat)(hi:i<ss.length):
  W.cell? ⟨g,i,none⟩=some (.string (ss.getD i ⟨#[]⟩)):=by
 have:=World.var?_cell hg h i;simpa[List.getD,hi]using this
def aSz:List ByteArray:=[⟨#[109,111,110]⟩,⟨#[116,117,101]⟩,⟨#[119,101,100]⟩,⟨#[116,104,117]⟩,⟨#[102,114,105]⟩,⟨#[115,97,116]⟩,⟨#[115,117,110]⟩]
def aJx:List (Int×Int):=[(6,6),(17,17),(1,1),(0,0),(2,5),(7,16),(18,255)]
def qX:List (String×DataW Unit):=[("netsegment/box.tops",Rows.laid_netsegment_box_tops),("netsegment/calendar.names",Rows.laid_netsegment_calendar_names),("netsegment/translation.protocols",Rows.laid_netsegment_translation_protocols)]
theorem door_met(os:Os)(args:Array Value):laidMetH Tryz.prog qX ((World.doorLaid Tryz.prog 400 os).forCall (fun _ _=>0) ⟨#[],args,[]⟩).memory:=
 laidMetH_of_parts3 (fuel:=8) (laidMet_of_run' 8 zk zk) zk zk
theorem cell_lt{W:World}{g i:Nat}{v:Value}(h:W.cell? ⟨g,i,none⟩=some v):g<W.heap.size:=by
 rcases aD g W.heap.size with h1|h1
 ·exact h1
 ·simp[World.cell?,h1]at h
def aXg(k:Nat):Field:=match Tryz.prog.underlying 55 with
 |some (.struct fs)=>fs.getD k default
 |_=>default
theorem Dx{W:World}(h:laidMetH Tryz.prog qX W):GlobOk NoE W:=by
 rw[MakeChecks.laidMetH_plain _ _ _ zk]at h;have g0:Tryz.prog.globalNamed "netsegment/box.tops"=some 0:=by kernel_rfl
 have g1:Tryz.prog.globalNamed "netsegment/translation.protocols"=some 1:=by kernel_rfl
 have g2:Tryz.prog.globalNamed "netsegment/calendar.names"=some 2:=by kernel_rfl
 have h1:Lib.TabIs Tryz.prog W "netsegment/box.tops" .u32 [4294967295,4294967295,255,65535,65535]:=
  Lib.tabIs_of_head (t:=127) (e:=23) (n:=5) g0 zk zk zk zk zk (rest:=[("netsegment/calendar.names",Rows.laid_netsegment_calendar_names),("netsegment/translation.protocols",Rows.laid_netsegment_translation_protocols)]) h
 have h2:StrsAre Tryz.prog W "netsegment/calendar.names" aSz:=
  Hr (t:=300) (e:=9) (n:=7) g2 zk zk zk zk zk (rest:=[("netsegment/translation.protocols",Rows.laid_netsegment_translation_protocols)]) (laidMet.tail h)
 have h3:PairsAre Tryz.prog W "netsegment/translation.protocols" aJx:=
  Fu (f0:=aXg 0) (f1:=aXg 1) (t:=185) (e:=55) (n:=7) g1 zk zk zk zk zk zk zk zk zk zk zk (rest:=[]) (laidMet.tail (laidMet.tail h))
 have c1:=h1.cell g0;have c3:=h3.cell g1;have c2:=h2.cell g2;intro g cs hg;have h5:∀{α:Type} (j:Nat) (y:α) (l:List α),l[j]? =some y->j<l.length/\y=l.getD j y:=fun j y l h=>by
  obtain⟨h1,h2⟩:=aP.1 h;exact⟨h1,by simp[List.getD,h]⟩
 match g,hg with
 |0,hg=>
  cases hg;refine⟨fun h=>h,cell_lt (c1 0 zd),fun j y hy=>?_⟩;obtain⟨hj,_⟩:=h5 _ _ _ hy
  match j,hj,hy with
  |0,_,hy=>cases hy;exact c1 0 zd
  |1,_,hy=>cases hy;exact c1 1 zd
  |2,_,hy=>cases hy;exact c1 2 zd
  |3,_,hy=>cases hy;exact c1 3 zd
  |4,_,hy=>cases hy;exact c1 4 zd
  |j+5,hj,_=>exact absurd hj zx
 |1,hg=>
  cases hg;exact⟨fun h=>h,cell_lt (c3 0 zd _ rfl),fun j y hy=>c3 j (aP.1 hy).1 y hy⟩
 |2,hg=>
  cases hg;refine⟨fun h=>h,cell_lt (c2 0 zd),fun j y hy=>?_⟩;obtain⟨hj,_⟩:=h5 _ _ _ hy
  match j,hj,hy with
  |0,_,hy=>cases hy;exact c2 0 zd
  |1,_,hy=>cases hy;exact c2 1 zd
  |2,_,hy=>cases hy;exact c2 2 zd
  |3,_,hy=>cases hy;exact c2 3 zd
  |4,_,hy=>cases hy;exact c2 4 zd
  |5,_,hy=>cases hy;exact c2 5 zd
  |6,_,hy=>cases hy;exact c2 6 zd
  |j+7,hj,_=>exact absurd hj zx
 |g+3,hg=>cases hg
open Go Go.Vm
def aUF:Ctx:={N:=33,plan:=p1 5 (lo 18) pn}
abbrev aQA:=ofD aUF Tryz.func79
def aWx:Ctx:={N:=17}
abbrev aVG:=ofD aWx Tryz.func92
def aWw:Ctx:={N:=17}
abbrev aVF:=ofD aWw Tryz.func54
def aUH:Ctx:={N:=19,np:=1,own:=oz [14]}
abbrev aDX:=ofD aUH Tryz.func48
def Az:Sched:=.wch 8 (ln [20,23,26,29,31,32])
def aUG:Ctx:={N:=19,np:=1,own:=oz [14,33,48],plan:=p1 1 (lz [1,5,11,19,25] (.alt 1 (.alt 3 (.alt 4 (lz [12,15] Az) (.alt 6 (.alt 4 (lz [15] Az) (.alt 10 (lz [23] (.alt 4 (lz [15] (.wch 8 (ln [26,29,31,32]))) (.alt 13 (ln [29,8,15,17,31,32]) Ab))) Ab)) Ab)) (.alt 4 (lz [6,12,15] Az) Ab)) (.alt 4 (lz [2,6,12,15] Az) Ab))) pn}
abbrev aQB:=ofD aUG Tryz.func40
def gvNear:Ctx:={N:=79,np:=2,own:=oz [14,40],plan:=p1 8 (lz [1,3,5,7,11,13,15,19,21,23,29,31,33,39,41,43,47,49,51,55,57,59,71] (.wch 4 (.wch 8 (.wch 12 (lz [27] (.wch 17 (lz [37] (.wch 22 (.wch 26 (.wch 30 (lz [63,65,67] (.alt 34 (ln [72,75,77,79,80]) (.alt 36 (ln [68,75,77,79,80]) Ab))))))))))))) (p1 9 (lp 5 [10,13,15,16]) pn),cut:=oz [9]}
def aGF:Ctx:={N:=8}
abbrev aDG:=ofD aGF Tryz.func97
def aGC:Ctx:={N:=63,hints:=h1 2 [.virt 1 10] hn}
abbrev aDD:=ofD aGC Tryz.func32
def aNx:Ctx:={N:=12}
abbrev aIv:=ofD aNx Tryz.func53
def aGx:Ctx:={N:=13}
abbrev aDz:=ofD aGx Tryz.func88
def aNy:Ctx:={N:=26,plan:=p1 4 (lp 15 [30,33,35]) pn}
abbrev aIw:=ofD aNy Tryz.func140
def Aa:Sched:=lo 9
def aGy:Ctx:={N:=26,plan:=p1 6 Aa pn}
abbrev aDA:=ofD aGy Tryz.func165
def aUi:Ctx:={N:=45,hints:=h1 2 [.virt 7 10] hn}
abbrev aQd:=ofD aUi Tryz.func230
def aNC:Ctx:={N:=41,hints:=h1 2 [.virt 7 2] hn}
abbrev aIA:=ofD aNC Tryz.func229
def aGB:Ctx:={N:=30}
abbrev aDC:=ofD aGB Tryz.func227
def aGE:Ctx:={N:=26}
abbrev aDF:=ofD aGE Tryz.func228
def aNE:Ctx:={N:=24,hints:=h1 2 [.virt 3 10] hn}
abbrev aIC:=ofD aNE Tryz.func155
def aBW:Ctx:={N:=140,plan:=p1 15 (lp 6 [15,17,19,21,23,25,29,31,33,12,26,34,37]) pn,hints:=h1 8 [.virt 9 10] hn,cut:=oz [15]}
abbrev Ml:=ofD aBW Tryz.func154
def aNB:Ctx:={N:=8}
abbrev aIz:=ofD aNB Tryz.func166
def aGD:Ctx:={N:=36,hints:=h1 2 [.asL 4] hn}
abbrev aDE:=ofD aGD Tryz.func98
def aBU:Ctx:={N:=38,plan:=p1 9 (lo 13) pn}
abbrev Zm:=ofD aBU Tryz.func326
def Bd:Sched:=.alt 12 (ln [30,32]) (.alt 15 (ln [25,32]) Ab)
def aGz:Ctx:={N:=91,plan:=p1 8 (lo 19) (p1 12 (lz [1,3,5,7,9,11,13,15,17,19,21,23] (.alt 12 (.alt 13 (ln [28,30,32]) (.alt 14 (ln [26,30,32]) Ab)) (.alt 13 (.alt 12 (ln [28,30,32]) (.alt 14 Bd Ab)) (.alt 14 (.alt 12 (ln [26,30,32]) (.alt 13 Bd Ab)) Ab)))) pn),hints:=h1 4 [.asL 5] hn}
abbrev Rx:=ofD aGz Tryz.func314
def aBV:Ctx:={N:=6}
abbrev Zn:=ofD aBV Tryz.func89
def aGG:Ctx:={N:=18}
abbrev aDH:=ofD aGG Tryz.func304
def aNz:Ctx:={N:=11}
abbrev aIx:=ofD aNz Tryz.func278
def aGA:Ctx:={N:=34}
abbrev aDB:=ofD aGA Tryz.func238
def aUj:Ctx:={N:=11}
abbrev aQe:=ofD aUj Tryz.func207
def aNA:Ctx:={N:=11}
abbrev aIy:=ofD aNA Tryz.func210
def aND:Ctx:={N:=11}
abbrev aIB:=ofD aND Tryz.func163
structure Grp (α:Type) where
 lo:Int
 hi:Int
 val:α
def gAt{α:Type}(l:List (Grp α))(v:Int):Option α:=(l.find? fun g=>decide (g.lo<=v)&&decide (v<=g.hi)).map (·.val)
inductive Wf {α:Type}:List (Grp α)->Prop
 |nil:Wf []
 |one (g:Grp α) (h:g.lo<=g.hi):Wf [g]
 |cons (g h:Grp α) (l:List (Grp α)) (h1:g.lo<=g.hi) (h2:g.hi<h.lo) (h3:g.hi+1=h.lo->g.val≠h.val) (hw:Wf (h::l)):Wf (g::h::l)
section
variable {α:Type}
theorem Wf.tail{g:Grp α}{l:List (Grp α)}(h:Wf (g::l)):Wf l:=by
 cases h with
 |one=>exact .nil
 |cons _ _ _ _ _ _ hw=>exact hw
theorem Wf.head{g:Grp α}{l:List (Grp α)}(h:Wf (g::l)):g.lo<=g.hi:=by
 cases h with
 |one _ h=>exact h
 |cons _ _ _ h _ _ _=>exact h
theorem Wf.above:∀{l:List (Grp α)} {g:Grp α},Wf (g::l)->∀x,x∈l->g.hi<x.lo/\x.lo<=x.hi
 |[],g,h,x,hx=>by simp at hx
 |y::l,g,h,x,hx=>by
  cases h with
  |cons _ _ _ h1 h2 h3 hw=>
   rcases aZ.1 hx with rfl|hx
   ·exact⟨h2,hw.head⟩
   ·have:=Wf.above hw x hx;have:=hw.head;omega
theorem Wf.le:∀{l:List (Grp α)},Wf l->∀z,z∈l->z.lo<=z.hi
 |[],_,z,hz=>by simp at hz
 |w::l,hw,z,hz=>by
  rcases aZ.1 hz with rfl|hz
  ·exact hw.head
  ·exact Wf.le hw.tail z hz
theorem uT(v:Int):gAt ([]:List (Grp α)) v=none:=rfl
theorem lB(g:Grp α)(l:List (Grp α))(v:Int):gAt (g::l) v=if g.lo<=v/\v<=g.hi then some g.val else gAt l v:=by
 unfold gAt;rw[List.find?_cons];by_cases h:g.lo<=v/\v<=g.hi
 ·simp[h]
 ·have:(decide (g.lo<=v)&&decide (v<=g.hi))=false:=by
   rw[bY,ne_eq,aJ,aL,aL];exact h
  rw[this,aF h]
theorem Jf{l:List (Grp α)}{v:Int}(h:∀g,g∈l->v<g.lo\/g.hi<v):gAt l v=none:=by
 induction l with
 |nil=>rfl
 |cons g l ih=>
  rw[lB,aF (by have:=h g zx;omega)];exact ih fun x hx=>h x (aS _ hx)
theorem Dw{l:List (Grp α)}{v:Int}{x:α}(h:gAt l v=some x):∃g,g∈l/\g.lo<=v/\v<=g.hi/\g.val=x:=by
 induction l with
 |nil=>cases h
 |cons g l ih=>
  rw[lB]at h;split at h
  ·rename_i hc;cases h;exact⟨g,by simp,hc.1,hc.2,rfl⟩
  ·obtain⟨y,h1,h2⟩:=ih h;exact⟨y,aS _ h1,h2⟩
theorem Wf.at_mem:∀{l:List (Grp α)},Wf l->∀{g:Grp α},g∈l->∀{v:Int},g.lo<=v->v<=g.hi->gAt l v=some g.val
 |[],h,g,hg,v,h1,h2=>by simp at hg
 |y::l,h,g,hg,v,h1,h2=>by
  rw[lB];rcases aZ.1 hg with rfl|hg
  ·rw[aH ⟨h1,h2⟩]
  ·have:=h.above g hg;rw[aF zo];exact Wf.at_mem h.tail hg h1 h2
theorem Wp:∀{l m:List (Grp α)},Wf l->Wf m->(∀v,gAt l v=gAt m v)->l=m
 |[],[],_,_,_=>rfl
 |[],h::m,_,hm,he=>by
  have:=he h.lo;rw[uT,lB,aH ⟨cC _,hm.head⟩]at this;cases this
 |g::l,[],hl,_,he=>by
  have:=he g.lo;rw[uT,lB,aH ⟨cC _,hl.head⟩]at this;cases this
 |g::l,h::m,hl,hm,he=>by
  have first:∀{g h:Grp α} {l m:List (Grp α)},Wf (g::l)->Wf (h::m)->(∀v,gAt (g::l) v=gAt (h::m) v)->h.lo<=g.lo:=by
   intro g h l m hl hm he;have e:=he g.lo;rw[lB,aH ⟨cC _,hl.head⟩]at e;obtain⟨x,hx,h1,h2,_⟩:=Dw e.symm;rcases aZ.1 hx with rfl|hx
   ·exact h1
   ·have:=hm.above x hx;have:=hm.head;omega
  have elo:g.lo=h.lo:=Int.le_antisymm (first hm hl fun v=>(he v).symm) (first hl hm he);have eval:g.val=h.val:=by
   have e:=he g.lo;rw[lB,aH ⟨cC _,hl.head⟩,lB,aH ⟨by omega,by have:=hm.head;omega⟩]at e;exact bB e
  have last:∀{g h:Grp α} {l m:List (Grp α)},Wf (g::l)->Wf (h::m)->g.lo=h.lo->g.val=h.val->(∀v,gAt (g::l) v=gAt (h::m) v)->h.hi<=g.hi:=by
   intro g h l m hl hm elo eval he;rcases eX g.hi h.hi with hlt|hge
   ·exfalso;have e:=he (g.hi+1);have h1:=hl.head;rw[lB,aF zo,lB (g:=h),aH ⟨by omega,by omega⟩]at e;obtain⟨x,hx,x1,x2,x3⟩:=Dw e;cases hl with
    |one=>simp at hx
    |cons _ y l _ y2 y3 hw=>
     rcases aZ.1 hx with rfl|hx
     ·exact y3 zo (by rw[x3,eval])
     ·have:=hw.above x hx;have:=hw.head;omega
   ·exact hge
  have ehi:g.hi=h.hi:=Int.le_antisymm (last hm hl elo.symm eval.symm fun v=>(he v).symm) (last hl hm elo eval he);have eg:g=h:=by
   cases g;cases h;simp only at elo eval ehi;subst elo;subst eval;subst ehi;rfl
  subst eg
  congr 1
  refine Wp hl.tail hm.tail fun v=>?_;have e:=he v;rw[lB,lB]at e;by_cases hc:g.lo<=v/\v<=g.hi
  ·have none_:∀{l:List (Grp α)},Wf (g::l)->gAt l v=none:=fun hw=>Jf fun x hx=>by have:=hw.above x hx;omega
   rw[none_ hl,none_ hm]
  ·rw[aF hc,aF hc]at e;exact e
theorem Wf.snoc:∀{l:List (Grp α)} {g:Grp α},Wf l->g.lo<=g.hi->(∀x,l.getLast?=some x->x.hi<g.lo/\(x.hi+1=g.lo->x.val≠g.val))->Wf (l++[g])
 |[],g,_,hg,_=>.one g hg
 |[x],g,hl,hg,h=>.cons x g [] hl.head (h x rfl).1 (h x rfl).2 (.one g hg)
 |x::y::l,g,hl,hg,h=>by
  cases hl with
  |cons _ _ _ h1 h2 h3 hw=>exact .cons x y (l++[g]) h1 h2 h3 (Wf.snoc hw hg fun z hz=>h z (by rw[List.getLast?_cons_cons];exact hz))
theorem Wf.init:∀{l:List (Grp α)} {g:Grp α},Wf (l++[g])->Wf l/\g.lo<=g.hi/\∀x,l.getLast?=some x->x.hi<g.lo/\(x.hi+1=g.lo->x.val≠g.val)
 |[],g,h=>⟨.nil,h.head,fun x hx=>by simp at hx⟩
 |[x],g,h=>by
  cases h with
  |cons _ _ _ h1 h2 h3 hw=>exact⟨.one x h1,hw.head,fun y hy=>by simp at hy;subst hy;exact⟨h2,h3⟩⟩
 |x::y::l,g,h=>by
  cases h with
  |cons _ _ _ h1 h2 h3 hw=>
   obtain⟨i1,i2,i3⟩:=Wf.init (l:=y::l) hw;exact⟨.cons x y l h1 h2 h3 i1,i2,fun z hz=>i3 z (by rw[List.getLast?_cons_cons]at hz;exact hz)⟩
theorem Wf.under:∀{l:List (Grp α)} {g:Grp α},Wf (l++[g])->∀x,x∈l->x.hi<g.lo:=by
 intro l
 induction l with
 |nil=>intro g _ x hx;simp at hx
 |cons y l ih=>
  intro g h x hx;rcases aZ.1 hx with rfl|hx
  ·exact(Wf.above h g zx).1
  ·exact ih h.tail x hx
theorem Jg{l:List (Grp α)}{g:Grp α}(hw:Wf (l++[g]))(v:Int):gAt (l++[g]) v=if g.lo<=v/\v<=g.hi then some g.val else gAt l v:=by
 induction l with
 |nil=>rw[dB,lB]
 |cons y l ih=>
  rw[eW,lB,ih hw.tail,lB];have:=Wf.under (l:=y::l) hw y zx;by_cases h1:y.lo<=v/\v<=y.hi
  ·rw[aH h1,aH h1,aF zo]
  ·rw[aF h1,aF h1]
end
def lab{β:Type}(R:Int->List β)(v:Int):Option (List β):=if(R v).isEmpty then none else some (R v)
def grow{β:Type}(eq:List β->List β->Bool)(out:List (Grp (List β)))(s:Int×Int)(rest:List β):List (Grp (List β)):=
 if rest.isEmpty then out else match out.getLast? with
  |some g=>if g.hi+1=s.1/\eq g.val rest=true then out.dropLast++[⟨g.lo,s.2,g.val⟩]else out++[⟨s.1,s.2,rest⟩]
  |none=>[⟨s.1,s.2,rest⟩]
structure GInv {β:Type} (R:Int->List β) (out:List (Grp (List β))) (e:Int):Prop where
 wf:Wf out
 at_:∀v,gAt out v=if 0<=v/\v<e then lab R v else none
 low:∀g,g∈out->0<=g.lo/\g.hi<e
 full:∀g,g∈out->g.val≠[]
theorem GInv.start{β:Type}(R:Int->List β):GInv R [] 0:=⟨.nil,fun v=>by rw[uT,aF zo],fun g h=>by simp at h,fun g h=>by simp at h⟩
theorem GInv.step{β:Type}{eq:List β->List β->Bool}(heq:∀a b,eq a b=true↔a=b){R:Int->List β}{out:List (Grp (List β))}{lo hi:Int}(h:GInv R out lo)(h0:0<=lo)(hle:lo<=hi)(hR:∀v,lo<=v->v<=hi->R v=R lo):
  GInv R (grow eq out (lo,hi) (R lo)) (hi+1):=by
 have at_new:∀(m:List (Grp (List β))),(∀v,gAt m v=if lo<=v/\v<=hi then lab R lo else gAt out v)->∀v,gAt m v=if 0<=v/\v<hi+1 then lab R v else none:=fun m hm v=>by
  rw[hm,h.at_];by_cases h1:lo<=v/\v<=hi
  ·rw[aH h1,aH zo,lab,lab,hR v h1.1 h1.2]
  ·rw[aF h1];by_cases h2:0<=v/\v<lo
   ·rw[aH h2,aH zo]
   ·rw[aF h2,aF zo]
 unfold grow;split
 ·rename_i he;have hl:lab R lo=none:=by unfold lab;rw[aH he]
  refine⟨h.wf,at_new out fun v=>?_,fun g hg=>?_,h.full⟩
  ·by_cases h1:lo<=v/\v<=hi
   ·rw[aH h1,hl,h.at_,aF zo]
   ·rw[aF h1]
  ·have:=h.low g hg;omega
 ·rename_i he;have hl:lab R lo=some (R lo):=by unfold lab;rw[aF he]
  have hne:R lo≠[]:=fun e=>he (by rw[e];rfl);rcases dI out with hn|⟨ini,g,hc⟩
  ·subst hn;simp only[List.getLast?_nil];refine⟨.one _ hle,at_new _ fun v=>?_,fun x hx=>?_,fun x hx=>?_⟩
   ·rw[lB,hl,uT]
   ·simp only[aU]at hx;subst hx;exact⟨h0,by simp only;omega⟩
   ·simp only[aU]at hx;subst hx;exact hne
  ·rw[dJ]at hc;subst hc;simp only[cW,cO,dT,dM];have hg:=h.low g zx;have hin:=h.wf.init;split
   ·rename_i hc;have hval:=(heq _ _).1 hc.2;have hw:Wf (ini++[⟨g.lo,hi,g.val⟩]):=Wf.snoc hin.1 (by have:=hin.2.1;simp only;omega) hin.2.2;refine⟨hw,at_new _ fun v=>?_,fun x hx=>?_,fun x hx=>?_⟩
    ·rw[Jg hw,Jg h.wf,hl];simp only;have:=hin.2.1;by_cases h1:lo<=v/\v<=hi
     ·rw[aH h1,aH zo,hval]
     ·rw[aF h1];by_cases h2:g.lo<=v/\v<=g.hi
      ·rw[aH h2,aH zo]
      ·rw[aF h2,aF zo]
    ·rcases aX.1 hx with hx|hx
     ·have:=h.low x (by simp[hx]);omega
     ·simp only[aU]at hx;subst hx;exact⟨hg.1,by simp only;omega⟩
    ·rcases aX.1 hx with hx|hx
     ·exact h.full x (by simp[hx])
     ·simp only[aU]at hx;subst hx;exact h.full g zx
   ·rename_i hc;have hw:Wf ((ini++[g])++[⟨lo,hi,R lo⟩]):=Wf.snoc h.wf hle fun x hx=>by
     simp only[cW,cO,dT,bN]at hx;subst hx;exact⟨hg.2,fun e1 e2=>hc ⟨e1,(heq _ _).2 e2⟩⟩
    refine⟨hw,at_new _ fun v=>?_,fun x hx=>?_,fun x hx=>?_⟩
    ·rw[Jg hw,hl]
    ·rcases aX.1 hx with hx|hx
     ·have:=h.low x hx;omega
     ·simp only[aU]at hx;subst hx;exact⟨h0,by simp only;omega⟩
    ·rcases aX.1 hx with hx|hx
     ·exact h.full x hx
     ·simp only[aU]at hx;subst hx;exact hne
theorem GInv.same{β:Type}{R:Int->List β}{l m:List (Grp (List β))}{e:Int}(h1:GInv R l e)(h2:GInv R m e):l=m:=
 Wp h1.wf h2.wf fun v=>by rw[h1.at_,h2.at_]
structure Bx where
 r0:Rg
 r1:Rg
 r2:Rg
 r3:Rg
 r4:Rg
deriving DecidableEq
def Bx.get(b:Bx):Nat->Rg
 |0=>b.r0
 |1=>b.r1
 |2=>b.r2
 |3=>b.r3
 |_=>b.r4
def Bx.put(b:Bx)(f:Nat)(r:Rg):Bx:=match f with
 |0=>{b with r0:=r}
 |1=>{b with r1:=r}
 |2=>{b with r2:=r}
 |3=>{b with r3:=r}
 |_=>{b with r4:=r}
def zR:Rg:=⟨0,0,by decide,by decide,by decide,by decide⟩
def zB:Bx:=⟨zR,zR,zR,zR,zR⟩
def iX:Nat->Int
 |0=>4294967295
 |1=>4294967295
 |2=>255
 |3=>65535
 |_=>65535
theorem kF(f:Nat):0<=iX f/\iX f<=4294967295:=by
 unfold iX;split<;>decide
def atF(f:Nat)(v:Int)(l:List Bx):List Bx:=l.filter fun b=>decide ((b.get f).lo<=v)&&decide (v<=(b.get f).hi)
def lO(f:Nat)(a b:List Bx):List Rg:=a.map (·.get f)++b.map (·.get f)
def eqB(x y:List Bx):Bool:=decide (x=y)
theorem uP(x y:List Bx):eqB x y=true↔x=y:=by unfold eqB;exact decide_eq_true_iff
def lD(R:Int->List Bx)(top:Int)(st:List Int):List (Grp (List Bx)):=(mC top st).foldl (fun out s=>grow eqB out s (R s.1)) []
def iZ(f:Nat)(gs:List (Grp (List Bx))):List Bx:=gs.flatMap fun g=>g.val.map fun b=>b.put f (mkR g.lo g.hi)
def jH(op:Bool->Bool->Bool):Nat->List Bx->List Bx->List Bx
 |0,a,b=>if op (!a.isEmpty) (!b.isEmpty)then [zB]else []
 |k+1,a,b=>iZ (4-k) (lD (fun v=>jH op k (atF (4-k) v a) (atF (4-k) v b)) (iX (4-k)) (starts (lO (4-k) a b) (iX (4-k))))
structure Cuts (top:Int) (l:List Rg) (st:List Int):Prop where
 sorted:st.Pairwise (· < ·)
 range:∀x,x∈st->0<=x/\x<=top
 zero:∃r,st=0::r
 mem:∀r,r∈l->r.lo<=r.hi->(r.lo<=top->r.lo∈st)/\(r.hi+1<=top->r.hi+1∈st)
theorem mA(l:List Rg){top:Int}(ht:0<=top):Cuts top l (starts l top):=by
 have inv:=oC l ht;exact⟨inv.sorted,inv.range,inv.zero,fun r hr hle=>zS l ht hr hle⟩
theorem Cuts.const{top:Int}{l:List Rg}{st:List Int}(h:Cuts top l st){s:Int×Int}(hs:s∈mC top st){v:Int}(h1:s.1<=v)(h2:v<=s.2){r:Rg}(hr:r∈l):(r.lo<=v/\v<=r.hi)↔(r.lo<=s.1/\s.1<=r.hi):=by
 obtain⟨g1,g2,g3⟩:=F4 _ h.sorted (fun x hx=>(h.range x hx).2) s hs;constructor
 ·rintro⟨a1,a2⟩
  refine⟨?_,by omega⟩;rcases eX s.1 r.lo with hlt|hge
  ·exact absurd ⟨hlt,by omega⟩ (g3 r.lo ((h.mem r hr zo).1 zo))
  ·exact hge
 ·rintro⟨a1,a2⟩
  refine⟨by omega,?_⟩;rcases eX r.hi v with hlt|hge
  ·exact absurd ⟨by omega,by omega⟩ (g3 (r.hi+1) ((h.mem r hr zo).2 zo))
  ·exact hge
theorem L1{R:Int->List Bx}{top:Int}:∀(r:List Int) (x:Int) (out:List (Grp (List Bx))),GInv R out x->0<=x->(x::r).Pairwise (· < ·)->(∀y,y∈x::r->y<=top)->(∀s,s∈mC top (x::r)->∀v,s.1<=v->v<=s.2->R v=R s.1)->
  GInv R ((mC top (x::r)).foldl (fun out s=>grow eqB out s (R s.1)) out) (top+1)
 |[],x,out,h,h0,hp,hb,hR=>by
  simp only[mC,fJ,List.foldl_nil];exact h.step uP h0 (hb x zx) (fun v v1 v2=>hR (x,top) (by simp[mC]) v v1 v2)
 |y::r,x,out,h,h0,hp,hb,hR=>by
  simp only[mC,fJ];obtain⟨p1,p2⟩:=cG.1 hp;have hxy:=p1 y zx;have hs:=h.step uP (hi:=y-1) h0 zo (fun v v1 v2=>hR (x,y-1) (by simp[mC]) v v1 v2);rw[show y-1+1=y by omega]at hs;exact L1 r y _ hs zo p2 (fun z hz=>hb z (aS _ hz)) (fun s hs=>hR s (by simp only[mC,aZ];exact .inr hs))
theorem Cuts.groups{R:Int->List Bx}{top:Int}{l:List Rg}{st:List Int}(h:Cuts top l st)(hR:∀u v,(∀r,r∈l->((r.lo<=u/\u<=r.hi)↔(r.lo<=v/\v<=r.hi)))->R u=R v):GInv R (lD R top st) (top+1):=by
 obtain⟨r,hr⟩:=h.zero;have hs:=h.sorted;have hb:=fun y hy=>(h.range y hy).2;have hc:∀s,s∈mC top st->∀v,s.1<=v->v<=s.2->R v=R s.1:=fun s hs v v1 v2=>hR v s.1 fun r hr=>h.const hs v1 v2 hr;rw[lD,hr];rw[hr]at hs hb hc;exact L1 r 0 [] (GInv.start R) (cC _) hs hb hc
theorem Lf{f:Nat}{u v:Int}{l:List Bx}(h:∀b,b∈l->(((b.get f).lo<=u/\u<=(b.get f).hi)↔((b.get f).lo<=v/\v<=(b.get f).hi))):atF f u l=atF f v l:=by
 unfold atF;refine List.filter_congr fun b hb=>?_;rw[bK,aJ,aJ,aL,aL,aL,aL];exact h b hb
def iY(op:Bool->Bool->Bool)(k:Nat)(a b:List Bx)(v:Int):List Bx:=jH op k (atF (4-k) v a) (atF (4-k) v b)
theorem uY{op:Bool->Bool->Bool}{k:Nat}{a b:List Bx}{u v:Int}(h:∀r,r∈lO (4-k) a b->((r.lo<=u/\u<=r.hi)↔(r.lo<=v/\v<=r.hi))):iY op k a b u=iY op k a b v:=by
 unfold iY;rw[Lf fun x hx=>h _ (aX.2 (.inl (fD hx))),Lf (l:=b) fun x hx=>h _ (aX.2 (.inr (fD hx)))]
theorem kT(op:Bool->Bool->Bool)(k:Nat)(a b:List Bx):jH op (k+1) a b=iZ (4-k) (lD (iY op k a b) (iX (4-k)) (starts (lO (4-k) a b) (iX (4-k)))):=by rw[jH];rfl
theorem mU(op:Bool->Bool->Bool)(k:Nat)(a b:List Bx){st:List Int}(hc:Cuts (iX (4-k)) (lO (4-k) a b) st):GInv (iY op k a b) (lD (iY op k a b) (iX (4-k)) st) (iX (4-k)+1):=hc.groups fun u v h=>uY h
theorem aAE(op:Bool->Bool->Bool)(k:Nat)(a b:List Bx){st:List Int}(hc:Cuts (iX (4-k)) (lO (4-k) a b) st):jH op (k+1) a b=iZ (4-k) (lD (iY op k a b) (iX (4-k)) st):=by
 rw[kT,(mU op k a b (mA _ (kF _).1)).same (mU op k a b hc)]
theorem Yp{f:Nat}{gs:List (Grp (List Bx))}(h:∀g,g∈gs->g.val≠[]):iZ f gs=[]↔gs=[]:=by
 constructor
 ·intro he;cases gs with
  |nil=>rfl
  |cons g gs=>
   have:=h g zx;rw[iZ,cS,List.append_eq_nil_iff,fO]at he;exact absurd he.1 this
 ·rintro rfl;rfl
theorem Nr(op:Bool->Bool->Bool)(k:Nat)(a b:List Bx):jH op (k+1) a b=[]↔∀v,0<=v->v<=iX (4-k)->iY op k a b v=[]:=by
 have g:=mU op k a b (mA (lO (4-k) a b) (kF (4-k)).1);rw[kT,Yp g.full];constructor
 ·intro h v v0 v1;have:=g.at_ v;rw[h,uT,aH ⟨v0,by omega⟩,lab]at this;split at this
  ·rename_i he;exact gI.1 he
  ·cases this
 ·intro h;cases hg:lD (iY op k a b) (iX (4-k)) (starts (lO (4-k) a b) (iX (4-k)))with
  |nil=>rfl
  |cons x l=>
   exfalso;rw[hg]at g;have hx:=g.low x zx;have hle:=g.wf.head;have e:=g.at_ x.lo;rw[lB,aH ⟨cC _,hle⟩,aH ⟨hx.1,by omega⟩,lab,h x.lo hx.1 zo]at e;cases e
theorem Ic{f:Nat}{v:Int}{l:List Bx}(h:(atF f v l).isEmpty=false):l.isEmpty=false:=by
 cases l with
 |nil=>simp[atF]at h
 |cons=>rfl
def aRA(op:Bool->Bool->Bool)(x y:Bool):Prop:=∀p q,(p=true->x=true)->(q=true->y=true)->op p q=false
theorem E6(op:Bool->Bool->Bool):∀(k:Nat) (a b:List Bx),aRA op (!a.isEmpty) (!b.isEmpty)->jH op k a b=[]
 |0,a,b,h=>by rw[jH,h _ _ id id];rfl
 |k+1,a,b,h=>by
  rw[Nr];intro v _ _;refine E6 op k _ _ fun p q hp hq=>h p q (fun e=>?_) (fun e=>?_)
  ·have:=hp e;simp only[dX]at this⊢;exact Ic this
  ·have:=hq e;simp only[dX]at this⊢;exact Ic this
/-! ### The limit -/
def kG(gs:List (Grp (List Bx))):Nat:=(gs.map fun g=>g.val.length).sum
theorem pB(f:Nat)(gs:List (Grp (List Bx))):(iZ f gs).length=kG gs:=by
 induction gs with
 |nil=>rfl
 |cons g gs ih=>
  rw[iZ]at ih⊢;rw[cS,aC,aA,ih];simp[kG]
theorem mF(l:List (Grp (List Bx)))(g:Grp (List Bx)):kG (l++[g])=kG l+g.val.length:=by simp[kG]
theorem Fl(out:List (Grp (List Bx)))(s:Int×Int)(rest:List Bx):kG out<=kG (grow eqB out s rest)/\rest.length<=kG (grow eqB out s rest):=by
 unfold grow;split
 ·rename_i h;rw[gI.1 h];exact⟨aO _,aK _⟩
 ·rcases dI out with hn|⟨ini,g,hc⟩
  ·subst hn;simp[kG]
  ·rw[dJ]at hc;subst hc;simp only[cW,cO,dT,dM];split
   ·rename_i hc;have:=congrArg List.length ((uP _ _).1 hc.2);simp only[mF];omega
   ·simp only[mF];omega
theorem fold_size(R:Int->List Bx):∀(l:List (Int×Int)) (out:List (Grp (List Bx))),kG out<=kG (l.foldl (fun out s=>grow eqB out s (R s.1)) out)
 |[],out=>aO _
 |s::l,out=>bC (Fl out s (R s.1)).1 (fold_size R l _)
theorem get_put{b:Bx}{f:Nat}{r:Rg}(h:f<=4):(b.put f r).get f=r:=by
 rcases f with _|_|_|_|_|f
 all_goals first|rfl|omega
theorem sK{b:Bx}{f g:Nat}{r:Rg}(hf:f<=4)(hg:g<=4)(h:g≠f):(b.put f r).get g=b.get g:=by
 rcases f with _|_|_|_|_|f<;>rcases g with _|_|_|_|_|g
 all_goals first|rfl|omega
theorem put_put{b:Bx}{f:Nat}{r s:Rg}:(b.put f r).put f s=b.put f s:=by
 rcases f with _|_|_|_|f<;>rfl
theorem Xp{b:Bx}{f:Nat}:b.put f (b.get f)=b:=by
 rcases f with _|_|_|_|f<;>rfl
theorem S9{a b:Bx}(h:∀f,f<=4->a.get f=b.get f):a=b:=by
 have h0:=h 0 zo;have h1:=h 1 zo;have h2:=h 2 zo;have h3:=h 3 zo;have h4:=h 4 zo;cases a;cases b;simp only[Bx.get]at h0 h1 h2 h3 h4;subst h0;subst h1;subst h2;subst h3;subst h4;rfl
def inK(p:Nat->Int):Nat->Bx->Bool
 |0,_=>true
 |k+1,b=>decide ((b.get (4-k)).lo<=p (4-k))&&decide (p (4-k)<=(b.get (4-k)).hi)&&inK p k b
def jB(p:Nat->Int)(k:Nat)(l:List Bx):Bool:=l.any (inK p k)
theorem oL(p:Nat->Int)(l:List Bx):jB p 0 l= !l.isEmpty:=by cases l<;>rfl
theorem pE(p:Nat->Int)(k:Nat)(l:List Bx):jB p (k+1) l=jB p k (atF (4-k) (p (4-k)) l):=by
 rw[jB,jB,atF,List.any_filter];rfl
theorem Wz{p:Nat->Int}{b:Bx}{r:Rg}{k:Nat}(hk:k<=4):∀{j:Nat},j<=k->inK p j (b.put (4-k) r)=inK p j b
 |0,_=>rfl
 |j+1,hj=>by
  rw[inK,inK,Wz hk zo,sK zo zo zo]
theorem Ul{p:Nat->Int}{k:Nat}(hk:k<=4):∀{gs:List (Grp (List Bx))},Wf gs->(∀g,g∈gs->0<=g.lo/\g.hi<=4294967295)->jB p (k+1) (iZ (4-k) gs)=match gAt gs (p (4-k))with
  |some l=>jB p k l
  |none=>false:=by
 intro gs
 induction gs with
 |nil=>intro _ _;rfl
 |cons g gs ih=>
  intro hw hb;have ih:=ih hw.tail fun x hx=>hb x (aS _ hx);have hg:=hb g zx;have hle:=hw.head;have e:jB p (k+1) (iZ (4-k) (g::gs))=(jB p (k+1) (g.val.map fun b=>b.put (4-k) (mkR g.lo g.hi))||jB p (k+1) (iZ (4-k) gs)):=by
   simp[jB,iZ,List.any_append]
  have e2:jB p (k+1) (g.val.map fun b=>b.put (4-k) (mkR g.lo g.hi))=(decide (g.lo<=p (4-k))&&decide (p (4-k)<=g.hi)&&jB p k g.val):=by
   rw[jB,jB,List.any_map];have:(inK p (k+1)∘fun b=>b.put (4-k) (mkR g.lo g.hi))=fun b=>decide (g.lo<=p (4-k))&&decide (p (4-k)<=g.hi)&&inK p k b:=by
    funext b
    simp only[Function.comp,inK];rw[get_put zo,Wz hk (aO _),kI zo zo zo zo,kP zo zo zo zo]
   rw[this];generalize (decide (g.lo<=p (4-k))&&decide (p (4-k)<=g.hi))=c;cases c<;>simp
  rw[e,e2,ih,lB];by_cases hc:g.lo<=p (4-k)/\p (4-k)<=g.hi
  ·rw[aH hc,decide_eq_true hc.1,decide_eq_true hc.2];have:gAt gs (p (4-k))=none:=Jf fun x hx=>by have:=hw.above x hx;omega
   rw[this];simp
  ·rw[aF hc];have:(decide (g.lo<=p (4-k))&&decide (p (4-k)<=g.hi))=false:=by
    rw[bY,ne_eq,aJ,aL,aL];exact hc
   rw[this];simp
theorem cano_wf(op:Bool->Bool->Bool)(k:Nat)(a b:List Bx):GInv (iY op k a b) (lD (iY op k a b) (iX (4-k)) (starts (lO (4-k) a b) (iX (4-k)))) (iX (4-k)+1):=mU op k a b (mA _ (kF _).1)
theorem pH(op:Bool->Bool->Bool){p:Nat->Int}(hp:∀f,0<=p f/\p f<=iX f):∀(k:Nat) (a b:List Bx),k<=5->jB p k (jH op k a b)=op (jB p k a) (jB p k b)
 |0,a,b,_=>by
  rw[oL,oL,oL,jH];cases op (!a.isEmpty) (!b.isEmpty)<;>rfl
 |k+1,a,b,hk=>by
  have g:=cano_wf op k a b;have ht:=kF (4-k);have hpk:=hp (4-k);rw[kT,Ul zo g.wf (fun x hx=>by have:=g.low x hx;omega),g.at_,aH ⟨hpk.1,by omega⟩,pE,pE,<-pH op hp k _ _ zo];have hr:jH op k (atF (4-k) (p (4-k)) a) (atF (4-k) (p (4-k)) b)=iY op k a b (p (4-k)):=rfl;rw[hr,lab];cases iY op k a b (p (4-k))with
  |nil=>rfl
  |cons x l=>rfl
def okK:Nat->Bx->Prop
 |0,b=>b=zB
 |k+1,b=>((b.get (4-k)).lo<=(b.get (4-k)).hi/\(b.get (4-k)).hi<=iX (4-k))/\okK k (b.put (4-k) zR)
theorem D7:∀{k:Nat} {b:Bx},k<=5->okK k b->∀f,f<=4->if 5<=f+k then((b.get f).lo<=(b.get f).hi/\(b.get f).hi<=iX f)else b.get f=zR
 |0,b,_,h,f,hf=>by
  rw[aF zo];rw[okK]at h;subst h;rcases f with _|_|_|_|_|f<;>first|rfl|omega
 |k+1,b,hk,h,f,hf=>by
  obtain⟨h1,h2⟩:=h;have ih:=D7 zo h2 f hf;by_cases e:f=4-k
  ·subst e;rw[aH zo];exact h1
  ·rw[sK zo hf e]at ih;by_cases h5:5<=f+k
   ·rw[aH h5]at ih;rw[aH zo];exact ih
   ·rw[aF h5]at ih;rw[aF zo];exact ih
theorem Hs(op:Bool->Bool->Bool):∀(k:Nat) (a b:List Bx),k<=5->∀x,x∈jH op k a b->okK k x
 |0,a,b,_,x,hx=>by
  rw[jH]at hx;split at hx
  ·simp only[aU]at hx;exact hx
  ·simp at hx
 |k+1,a,b,hk,x,hx=>by
  have g:=cano_wf op k a b;have ht:=kF (4-k);rw[kT]at hx;obtain⟨gr,hgr,hx⟩:=eA.1 hx;obtain⟨y,hy,rfl⟩:=bQ.1 hx;have hl:=g.low gr hgr;have hle:=g.wf.le gr hgr;have hat:=g.wf.at_mem hgr (cC gr.lo) hle;rw[g.at_,aH ⟨hl.1,by omega⟩,lab]at hat;split at hat
  ·cases hat
  ·have hv:=bB hat;rw[<-hv]at hy;have hyk:=Hs op k _ _ zo y hy;refine⟨?_,?_⟩
   ·rw[get_put zo,kI zo zo zo zo,kP zo zo zo zo];exact⟨hle,by omega⟩
   ·rw[put_put];have hz:=D7 zo hyk (4-k) zo;rw[aF zo]at hz;rw[<-hz,Xp];exact hyk
end Go.Proofs.YtgicddadddhonaaGreatDoor
