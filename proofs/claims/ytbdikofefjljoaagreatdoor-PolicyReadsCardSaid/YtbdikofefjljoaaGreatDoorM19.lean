/- The pairs of a generated policy come to few boxes. -/
import Derived.Test.YtbdikofefjljoaaGreatDoorProg
import Derived.Shelf.SlLaysF0
import Derived.Shelf.SlSortCmp.WholeK
import Derived.Test.YtbdikofefjljoaaGreatDoorM18
set_option linter.unusedVariables false
set_option linter.unusedSimpArgs false
set_option maxRecDepth 100000
set_option maxHeartbeats 4000000
namespace Go.Proofs.YtbdikofefjljoaaGreatDoor
open Go Go.Vm
/-! ### Two boxes joined -/
/-! ### Pairs of what is cut by ranges -/
section
variable {t:Tp} {i:Nt} {A:List Bx}
end
/-! ### Sums over all pairs -/
/-! ### Real headers and two boxes -/
/-! ### All pairs -/
theorem cnSet1(raw:List Int)(pos:Nat)(hp:pos<=raw.length)(hr:raw.length<=9223372036854775807){K:KT}
  (hK:∀(l:List Bx) (pos':Nat),l.length<=4096->pos'<=raw.length->K (encXs l) [tapeO raw pos']):ACall Tryz.prog 87 [.op 0 0,.v (.int .i64 1)] [tapeO raw pos] K:=by
 have hbx:∀{K:KT},(∀(l:List Bx) (pos':Nat),l.length<=1->pos'<=raw.length->K (encXs l) [tapeO raw pos'])->ACall Tryz.prog 166 [.op 0 0,.v (.int .i64 1),.v (.bool false)] [tapeO raw pos] K:=fun {K} h=>
  ACall.args (ys:=[.op 0 0,.v (.int .i64 1),.sb false]) ⟨Weak.refl,Weak.refl,Weak.bool,trivial⟩ (cnBoxes raw pos 1 zd hp hr h)
 refine ofnSet rfl rfl ?_
 (repeat' ((conv=>whnf);first|(with_reducible first|refine hbx fun l p2 hl hp2=>?_|refine cr4Make _ zo ?_)|refine zG ?_|apply zA|(apply zI;intro h)|exact zT));(all_goals conv=>whnf)
 exact hK _ _ (makeP_pset _).len zp
theorem ix_Q{Q:AV->Prop}{xs:List AV}{i:Nat}{K:AV->Prop}(hi:i<xs.length)(hQ:∀y,y∈xs->Q y)(hk:∀y,Q y->K y):Ix xs i K:=
 Ix.intro (aD hi) (hk _ (hQ _ (dD hi)))
def IsX(y:AV):Prop:=∃b:Bx,y=encX b
theorem isX(b:Bx):IsX (encX b):=⟨b,rfl⟩
theorem ix_X{xs:List AV}{i:Nat}{K:AV->Prop}(hi:i<xs.length)(hQ:∀y,y∈xs->IsX y)(hk:∀b:Bx,K (encX b)):Ix xs i K:=
 ix_Q hi hQ fun y ⟨b,hb⟩=>hb▸hk b
theorem cnSpS(raw:List Int)(pos:Nat)(l:List Bx)(hl:l.length<100000)(hp:pos<=raw.length)(hr:raw.length<=9223372036854775807){K:KT}
  (hK:∀(m:List Bx) (pos':Nat),m.length<=l.length+1->pos'<=raw.length->K (encXs m) [tapeO raw pos']):ACall Tryz.prog 86 [.op 0 0,encXs l] [tapeO raw pos] K:=by
 have hE:∀(xs:List AV) (p':Nat),(∀y,y∈xs->IsX y)->xs.length<=l.length+1->p'<=raw.length->K (.lst xs) [tapeO raw p']:=fun xs p' h1 h2 h3=>by
  obtain⟨m,rfl⟩:=list_enc encX h1
  exact hK m p' (by rwa[aA]at h2) h3
 have h0:(0+(l.map encX).length)=l.length:=by rw[aA,bL]
 have hall:∀y,y∈[]++l.map encX->IsX y:=fun y hy=>by
  rw[cZ]at hy
  obtain⟨b,_,rfl⟩:=bU.1 hy
  exact isX b
 have hal:([]++l.map encX).length=l.length:=by rw[cZ,aA]
 refine ofnSpS rfl rfl ?_
 (repeat' ((conv=>whnf);first|(with_reducible first|refine cnBox raw _ zw hr fun b p2 hp2=>?_|refine cnSpB raw _ _ zw hr fun b p2 hp2=>?_)|refine zG ?_|apply zA|(apply zI;intro h)|exact zT));(all_goals conv=>whnf)
 ·exact hE _ _ (all_app hall (isX b)) (by rw[aC,hal];simp) zp
 rw[h0]at h⊢
 generalize []++l.map encX=xs at hall hal⊢
 have hset:∀(i:Nat) (b:Bx),∀y,y∈xs.set i (encX b)->IsX y:=fun i b=>all_set hall (isX b)
 (repeat' ((conv=>whnf);first|(refine nNext raw _ l.length zo zw hr fun i p1 hi hp1=>?_)|(refine nN5 raw _ zp hr (fun p1 hp1=>?_) (fun p1 hp1=>?_) (fun p1 hp1=>?_) (fun p1 hp1=>?_) fun p1 hp1=>?_)|(with_reducible first|refine in_nat zo ?_|refine in_nat (by simp only[dR];omega) ?_)|(refine in_c zd ?_)|(refine In.intro 0 rfl zo ?_)|(with_reducible first|refine cnBox raw _ zw hr fun b p2 hp2=>?_|refine cnSpB raw _ _ zw hr fun b p2 hp2=>?_)|(refine ix_X zo hall fun r=>?_)|(refine ix_X (by simp only[dR];omega) (hset _ _) fun r=>?_)|(with_reducible refine wr_u32_any fun e he0 he1=>?_)|refine zG ?_|apply zA|(apply zI;intro h)|exact zT));(all_goals conv=>whnf)
 all_goals
  refine hE _ _ ?_ ?_ zw
  ·repeat' first|exact hall|refine all_app ?_ ?_|refine all_set ?_ ?_
   all_goals first
    |exact isX _
    |exact isX ⟨⟨e,_,he0,he1,r.r0.h0,r.r0.h1⟩,r.r1,r.r2,r.r3,r.r4⟩
    |exact isX ⟨r.r0,⟨e,_,he0,he1,r.r1.h0,r.r1.h1⟩,r.r2,r.r3,r.r4⟩
    |exact isX ⟨r.r0,r.r1,⟨e,_,he0,he1,r.r2.h0,r.r2.h1⟩,r.r3,r.r4⟩
    |exact isX ⟨r.r0,r.r1,r.r2,⟨e,_,he0,he1,r.r3.h0,r.r3.h1⟩,r.r4⟩
    |exact isX ⟨r.r0,r.r1,r.r2,r.r3,⟨e,_,he0,he1,r.r4.h0,r.r4.h1⟩⟩
  ·simp only[aC,dR,hal,aJ,aO];omega
end Go.Proofs.YtbdikofefjljoaaGreatDoor
namespace Go.Proofs
open Go.Shelf
def Tryz.sortR_ren:Go.Shelf.Ren:=⟨fun|6=>302|15=>116|14=>329|28=>208|29=>209|20=>338|21=>339|22=>340|23=>341|24=>342|25=>343|26=>344|27=>345|46=>356|47=>274|48=>275|49=>357|50=>358|57=>363|n=>n,fun|22=>117|24=>111|25=>308|3=>3|39=>164|0=>0|53=>55|55=>214|4=>4|46=>233|45=>232|50=>237|5=>5|9=>9|66=>287|70=>291|76=>324|77=>278|n=>n,fun|n=>n⟩
theorem Tryz.sortR:Go.Proofs.SlLaysF0.n6 Tryz.prog Tryz.sortR_ren:={
 mixed:=by kernel_rfl
 f6:=⟨Tryz.f302.name,by decide,Tryz.func302.trans (congrArg some (by kernel_rfl))⟩
 f14:=⟨Tryz.f329.name,by decide,Tryz.func329.trans (congrArg some (by kernel_rfl))⟩
 f15:=Tryz.func116.trans (congrArg some (by kernel_rfl))
 f20:=⟨Tryz.f338.name,by decide,Tryz.func338.trans (congrArg some (by kernel_rfl))⟩
 f21:=⟨Tryz.f339.name,by decide,Tryz.func339.trans (congrArg some (by kernel_rfl))⟩
 f22:=⟨Tryz.f340.name,by decide,Tryz.func340.trans (congrArg some (by kernel_rfl))⟩
 f23:=⟨Tryz.f341.name,by decide,Tryz.func341.trans (congrArg some (by kernel_rfl))⟩
 f24:=⟨Tryz.f342.name,by decide,Tryz.func342.trans (congrArg some (by kernel_rfl))⟩
 f25:=⟨Tryz.f343.name,by decide,Tryz.func343.trans (congrArg some (by kernel_rfl))⟩
 f26:=⟨Tryz.f344.name,by decide,Tryz.func344.trans (congrArg some (by kernel_rfl))⟩
 f27:=⟨Tryz.f345.name,by decide,Tryz.func345.trans (congrArg some (by kernel_rfl))⟩
 f28:=Tryz.func208.trans (congrArg some (by kernel_rfl))
 f29:=Tryz.func209.trans (congrArg some (by kernel_rfl))
 f46:=⟨Tryz.f356.name,by decide,Tryz.func356.trans (congrArg some (by kernel_rfl))⟩
 f47:=Tryz.func274.trans (congrArg some (by kernel_rfl))
 f48:=Tryz.func275.trans (congrArg some (by kernel_rfl))
 f49:=⟨Tryz.f357.name,by decide,Tryz.func357.trans (congrArg some (by kernel_rfl))⟩
 f50:=⟨Tryz.f358.name,by decide,Tryz.func358.trans (congrArg some (by kernel_rfl))⟩
 f57:=⟨Tryz.f363.name,by decide,Tryz.func363.trans (congrArg some (by kernel_rfl))⟩
 t0:=Tryz.underlying0
 a0:=Tryz.isAgg0
 z0:=Tryz.sizeOf0
 v0:=Tryz.zeroValue0
 t3:=Tryz.underlying3
 a3:=Tryz.isAgg3
 z3:=Tryz.sizeOf3
 v3:=Tryz.zeroValue3
 t4:=Tryz.underlying4
 a4:=Tryz.isAgg4
 z4:=Tryz.sizeOf4
 v4:=Tryz.zeroValue4
 t5:=Tryz.underlying5
 a5:=Tryz.isAgg5
 z5:=Tryz.sizeOf5
 v5:=Tryz.zeroValue5
 t9:=Tryz.underlying9
 a9:=Tryz.isAgg9
 z9:=Tryz.sizeOf9
 v9:=Tryz.zeroValue9
 t22:=Tryz.underlying117
 a22:=Tryz.isAgg117
 z22:=Tryz.sizeOf117
 v22:=Tryz.zeroValue117
 t25:=Tryz.underlying308
 a25:=Tryz.isAgg308
 z25:=Tryz.sizeOf308
 v25:=Tryz.zeroValue308
 t39:=Tryz.underlying164
 a39:=Tryz.isAgg164
 z39:=Tryz.sizeOf164
 v39:=Tryz.zeroValue164
 t45:=Tryz.underlying232
 a45:=Tryz.isAgg232
 z45:=Tryz.sizeOf232
 v45:=Tryz.zeroValue232
 t46:=Tryz.underlying233
 a46:=Tryz.isAgg233
 z46:=Tryz.sizeOf233
 v46:=Tryz.zeroValue233
 t50:=Tryz.underlying237
 a50:=Tryz.isAgg237
 z50:=Tryz.sizeOf237
 v50:=Tryz.zeroValue237
 t53:=Tryz.underlying55
 a53:=Tryz.isAgg55
 z53:=Tryz.sizeOf55
 v53:=Tryz.zeroValue55
 t55:=Tryz.underlying214
 a55:=Tryz.isAgg214
 z55:=Tryz.sizeOf214
 v55:=Tryz.zeroValue214
 t66:=Tryz.underlying287
 a66:=Tryz.isAgg287
 z66:=Tryz.sizeOf287
 v66:=Tryz.zeroValue287
 t70:=Tryz.underlying291
 a70:=Tryz.isAgg291
 z70:=Tryz.sizeOf291
 v70:=Tryz.zeroValue291
 t76:=Tryz.underlying324
 a76:=Tryz.isAgg324
 z76:=Tryz.sizeOf324
 v76:=Tryz.zeroValue324
 t77:=Tryz.underlying278
 a77:=Tryz.isAgg278
 z77:=Tryz.sizeOf278
 v77:=Tryz.zeroValue278}
end Go.Proofs
namespace Go.Vm
open Go.Sort Go.Proofs Go.Shelf
theorem rep_none(W:World)(hg:GlobOk (fun _=>False) W):Rep noInj (fun _=>False) W ([]:List Obj).length (enumH 0 []):=
 ⟨fun _ _=>rfl,fun id o hg=>by simp[enumH,get]at hg,fun id id' o o' b base base' hg=>by simp[enumH,get]at hg,fun b hb=>hb.elim,hg⟩
theorem grow_of_ext{W w':World}{ι':Inj}{h':Hp}{E':Nat->Prop}(x:Ext noInj (enumH 0 []) (fun _=>False) W ι' h' E' w'):∃q os',w'=grow (W.drewN q) os':=by
 have hno:∀b,¬Own noInj (enumH 0 []) b:=fun b ⟨id,o,base,hg,_⟩=>by simp[enumH,get]at hg
 refine⟨w'.drawn-W.drawn,w'.heap.extract W.heap.size w'.heap.size,?_⟩
 have hh:w'.heap=W.heap++w'.heap.extract W.heap.size w'.heap.size:=by
  apply Array.ext_getElem?
  intro i
  rw[Array.getElem?_append]
  split
  ·rename_i hi
   exact(x.old i hi (hno i)).1
  ·rename_i hi
   rw[Array.getElem?_extract]
   have hsz:=x.size
   split
   ·congr 1;omega
   ·rw[eU];omega
 have hd:=x.drawn
 have h1:=x.os;have h2:=x.tape;have h3:=x.output
 cases w'
 cases W
 simp only[grow,World.drewN]at*
 subst h1;subst h2;subst h3
 congr 1
 omega
section
variable {P:Program} {α:Type} [Inhabited α]
theorem cmpLays_of{g:Nat}{enc:α->List Value}{k:Nat}{cf:α->α->Int}{blk off size:Nat}{w:World}(hgl:∀(m:Nat) (os:Array Go.Obj) (dk:Array α),GlobOk (fun _=>False) (sortWorldK enc k w blk off m dk os))
  (h:∀x y:α,ACall P g [.agg ((enc x).map .v),.agg ((enc y).map .v)] [] fun r hs=>r=.v (.int .i64 (cf x y))/\hs=[]):CmpLays P g #[] enc k cf blk off size w:=by
 intro m os dk _ x y
 have hgW:=hgl m os dk
 generalize sortWorldK enc k w blk off m dk os=W at hgW⊢
 obtain⟨_,h2⟩:=(h x y).elim
 have one:∀z:α,Rel (fun _=>False) W noInj (.agg ((enc z).map .v)) (.agg (enc z).toArray):=fun z=>
  .agg _ _ zx (fun i a b ha hb=>by
   have hb':(enc z)[i]? =some b:=by simpa using hb
   rw[bP,hb']at ha
   cases ha
   exact .v _)
 have hv:RL (fun _=>False) W noInj [.agg ((enc x).map .v),.agg ((enc y).map .v)] #[.agg (enc x).toArray,.agg (enc y).toArray]:=RL.cons (one x) (RL.cons (one y) rl_nil)
 rw[Array.append_empty]
 refine(h2 noInj _ W _ (rep_none W hgW) hv).mono ?_
 rintro e w' ⟨v,rv,hs',ι',E',rfl,⟨rfl,rfl⟩,_,hr,x⟩
 cases hr
 exact⟨rfl,grow_of_ext x⟩
variable {E:Nat->Prop} {w:World} {ι:Inj} {n:Nat} {h:Hp}
theorem GlobOk.none{E:Nat->Prop}{w:World}(h:GlobOk E w):GlobOk (fun _=>False) w:=fun g cs hg=>by
 obtain⟨_,h2,h3⟩:=h g cs hg
 exact⟨fun f=>f,h2,h3⟩
theorem glob_grow{E:Nat->Prop}{w:World}(h:GlobOk E w)(m:Nat)(os:Array Go.Obj):GlobOk E (grow (Sort.ahead w m) os):=fun g cs hg=>by
 obtain⟨h1,h2,h3⟩:=h g cs hg
 refine⟨h1,?_,fun j y hy=>?_⟩
 ·rw[size_grow];exact cI h2 (Nat.le_add_right _ _)
 ·rw[cell_of_heap (a:=⟨g,j,Option.none⟩) (heap_grow_old (Sort.ahead w m) os h2)];exact h3 j y hy
theorem rep_grow(r:Rep ι E w n h)(m:Nat)(os:Array Go.Obj):Rep ι E (grow (Sort.ahead w m) os) n h/\Ext ι h E w ι h E (grow (Sort.ahead w m) os):=by
 have hh:∀b,b<w.heap.size->(grow (Sort.ahead w m) os).heap[b]? =w.heap[b]? :=fun b hb=>heap_grow_old (Sort.ahead w m) os hb
 have hsz:w.heap.size<=(grow (Sort.ahead w m) os).heap.size:=by rw[size_grow];exact Nat.le_add_right _ _
 have hc:∀a:Addr,a.block<w.heap.size->(grow (Sort.ahead w m) os).cell? a=w.cell? a:=fun a ha=>cell_of_heap (hh _ ha)
 have hf:∀a:Addr,a.block<w.heap.size->(grow (Sort.ahead w m) os).frozen? a=w.frozen? a:=fun a ha=>by simp only[World.frozen?,hh _ ha]
 have hk:Keeps E w E (grow (Sort.ahead w m) os):=⟨hsz,fun b hb hE=>⟨hh b hb,hE⟩,fun a ha=>by rw[hc a (lt_of_cell ha)];exact ha,fun a ha=>hf a (lt_of_cell ha)⟩
 exact⟨⟨r.fresh,fun id o hg=>(r.obj id o hg).keep hk (fun _ _ h=>h) (fun b base hb=>r.own_E ⟨id,o,base,hg,hb⟩) (fun b base hb=>hh b (own_ne r hg hb)),r.sep,fun b hb=>cI (r.bound b hb) hsz,r.glob.keep hk⟩,
  ⟨rfl,rfl,rfl,hsz,fun _ _ h=>h,fun b hb _=>⟨hh b hb,Iff.rfl⟩,fun _ _ h=>h,fun a ha=>by rw[hc a (lt_of_cell ha)];exact ha,fun a ha=>hf a ha,by show w.drawn<=w.drawn+m;omega⟩⟩
theorem cell?_putCells(d:Array Value)(w:World)(b off:Nat)(a:Addr)(h:(w.cell? a).isSome=true):((putRow id w b off d).cell? a).isSome=true:=by
 by_cases hb:a.block=b
 ·subst hb
  unfold putRow mapBlock
  simp only[World.cell?,fW,if_true]at h⊢
  cases hw:w.heap[a.block]? with
  |none=>simp[hw]at h
  |some o=>
   cases o with
   |cells c e fr=>
    simp only[hw,dC,onCells]at h⊢
    split at h
    ·simp at h
    ·rename_i hs
     simp only[hs]
     simp only[cM,if_false]at h⊢
     rw[fP]at h⊢
     obtain⟨v,hv⟩:=h
     have hlt:=(eV.1 hv).1
     exact⟨_,bC (by simpa[putCells]using hlt)⟩
   |_=>simp[hw]at h
 ·rw[show(putRow id w b off d).cell? a=w.cell? a from cell?_putRow_other id w b off d a (Or.inl hb)];exact h
theorem frozen_putRow(d:Array Value)(w:World)(b off:Nat)(a:Addr):(putRow id w b off d).frozen? a=w.frozen? a:=by
 unfold putRow mapBlock World.frozen?
 simp only[fW]
 by_cases hb:b=a.block
 ·subst hb
  simp only[if_true]
  cases w.heap[a.block]? with
  |none=>rfl
  |some o=>cases o<;>rfl
 ·simp[hb]
theorem writes_putRow(d:Array Value)(w:World)(b off:Nat):Writes w b (putRow id w b off d):=
 ⟨rfl,rfl,rfl,by simp,fun k hk=>by simp[putRow,mapBlock,fW,Ne.symm hk],fun a ha=>cell?_putCells d w b off a ha,fun a=>frozen_putRow d w b off a,rfl⟩
theorem sort_of{f g k:Nat}{enc:α->List Value}{encA:α->AV}{cf:α->α->Int}(hok:okFn P f=true)(hk:∀x,(enc x).length=k)(henc:∀x,(encA x).cells=(enc x).map .v)
  (hsort:∀(blk off cap:Nat) (d:Array α) (w:World),HoldsK enc k w blk off d->blk<w.heap.size->d.size<4611686018427387904->(∀(m:Nat) (os:Array Go.Obj) (dk:Array α),GlobOk (fun _=>False) (sortWorldK enc k w blk off m dk os))->
   Calls P f #[.slice (some ⟨blk,off,none⟩) d.size cap,.func (.func g) #[] #[]] w fun e w'=>e=.returned (.tuple #[])/\∃d' n os,PermIn 0 d.size d d'/\SortedIn (ltOf cf) 0 d.size d'/\w'=sortWorldK enc k w blk off n d' os)
  (hnone:∀(p:Option Addr) (cap:Nat) (fv:Value) (w:World),Calls P f #[.slice p 0 cap,fv] w fun e w'=>e=.returned (.tuple #[])/\w'=w)
  {d:List α}{len:Nat}(hlen:len=d.length)(hd:d.length<4611686018427387904){K:KT}
  (hK:∀d':List α,d'.Perm d->d'.Pairwise (fun x y=>ltOf cf y x=false)->K (.tup []) [.arr k (d'.map encA)]):
  ACall P f [.os 0 k 0 len,.fn (.func g) [] []] [.arr k (d.map encA)] K:=by
 refine ACall.intro hok fun ι E w vals r hv=>?_
 obtain⟨v0,vs,rfl,hv0,hv⟩:=hv.head
 obtain⟨v1,vs,e1,hv1,hv2⟩:=hv.head
 cases e1
 have hvs:vs=[]:=by have:=hv2.nil;simpa using this
 subst hvs
 have hfn:v1=.func (.func g) #[] #[]:=by
  cases hv1 with
  |fn _ _ _ F C hF hC _ _=>
   simp only[aO]at hF hC
   rw[cV hF.symm,cV hC.symm]
 subst hfn
 have hg:get (enumH 0 [.arr k (d.map encA)]) 0=some (.arr k (d.map encA)):=rfl
 rcases dA d.length with h0|h0
 ·have hd0:d=[]:=dN h0
  subst hd0
  have hz:∃p cap,v0=.slice p 0 cap:=by
   subst hlen
   cases hv0 with
   |osz _ _ _ a=>exact⟨a,0,rfl⟩
   |os _ _ _ _ b base cap hι hc h=>exact⟨_,cap,rfl⟩
  obtain⟨p,cap,rfl⟩:=hz
  refine(hnone p cap _ w).mono ?_
  rintro e w' ⟨rfl,rfl⟩
  exact⟨_,.tup [],[.arr k []],ι,E,rfl,hK [] (List.Perm.refl _) List.Pairwise.nil,r,.tup [] #[] rfl (fun i x y hx _=>by simp at hx),Ext.refl⟩
 ·have hpos:0<len:=by omega
  cases hv0 with
  |osz _ _ _ a=>omega
  |os _ _ _ _ b base cap hι hc hcell=>
   have hsz:=sz_of r hg
   rcases r.obj 0 _ hg with⟨h1,_⟩|⟨b',base',h1,h2,h3,h4,h5⟩
   ·rw[hι]at h1;cases h1
   ·rw[hι]at h1;cases h1
    have hbang:∀{l:List α} {i:Nat} (hi:i<l.length),l.toArray[i]! =l[i]:=fun {l i} hi=>by simp[hi]
    have hH:HoldsK enc k w b base d.toArray:=by
     intro t ht
     have ht':t<d.toArray.size*k:=by simpa using ht
     have kp:0<k:=by
      rcases dA k with h0|h0
      ·subst h0;simp at ht'
      ·exact h0
     have hi:t/k<d.length:=by
      rw[fX kp];simpa using ht'
     have hc:=Nat.mod_lt t kp
     rw[get_flatK _ _ _ _ ht',hbang hi]
     have hxi:(d.map encA)[t/k]? =some (encA d[t/k]):=by simp[hi]
     have hcl:(enc d[t/k])[t%k]? =some ((enc d[t/k])[t%k]'(by rw[hk];exact hc)):=aD _
     have hcc:(encA d[t/k]).cells[t%k]? =some (.v ((enc d[t/k])[t%k]'(by rw[hk];exact hc))):=by rw[henc,bP,hcl];rfl
     obtain⟨u,e1,e2,e3⟩:=h5 _ _ _ _ hxi hcc
     have hu:u=(enc d[t/k])[t%k]'(by rw[hk];exact hc):=by cases e3;rfl
     have hoff:base+t/k*k+t%k=base+t:=by
      have:=Nat.div_add_mod t k
      rw[fV]at this
      omega
     rw[hoff]at e1 e2
     refine⟨?_,e2⟩
     rw[e1,hu,getElem!_pos (enc d[t/k]) (t%k) (by rw[hk];exact hc)]
     rfl
    have hgl:∀(m:Nat) (os:Array Go.Obj) (dk:Array α),GlobOk (fun _=>False) (sortWorldK enc k w b base m dk os):=fun m os dk=>by
     have g1:=r.glob.keep ((writes_putRow (Go.Sort.flatK enc k dk) w b base).keeps h2)
     exact(glob_grow g1 m os).none
    have h:=hsort b base cap d.toArray w hH h3 (by simpa using hd) hgl
    rw[show base+0*k=base by omega,hlen,show d.length=d.toArray.size by simp]
    refine h.mono ?_
    rintro e w' ⟨rfl,d',m,os,hp,hs,rfl⟩
    obtain⟨p1,p2,p3⟩:=hp
    have hd':d'.size=d.length:=by simpa using p1
    have hH':=holdsK_sortWorldK_c enc k w b base d.toArray d' m os hH h3 p1
    have hperm:d'.toList.Perm d:=by
     have e1:(d'.extract 0 d.toArray.size)=d':=by rw[<-p1];simp
     rw[e1]at p3
     simpa using p3
    refine⟨_,.tup [],[.arr k (d'.toList.map encA)],ι,E,rfl,hK _ hperm ?_,?_⟩
    ·rw[cO]
     intro i j hi hj hij
     have:=hs i j (aH _) hij (by simp at hj;simpa[<-hd']using hj)
     simp at hi hj
     rw[getElem!_pos d' i hi,getElem!_pos d' j hj]at this
     simpa using this
    · -- the world: drawn on, the row put, blocks laid behind
      have e0:sortWorldK enc k w b base m d' os=grow (Sort.ahead (putRow id w b base (Go.Sort.flatK enc k d')) m) os:=rfl
      have ho:ORel E (putRow id w b base (Go.Sort.flatK enc k d')) ι 0 (.arr k (d'.toList.map encA)):=by
       refine .inr ⟨b,base,hι,h2,by simpa using h3,fun i x hx=>?_,fun i x j c hx hc=>?_⟩
       ·rw[bP,bK]at hx
        obtain⟨y,_,rfl⟩:=hx
        rw[henc,aA,hk]
       ·rw[bP,bK]at hx
        obtain⟨y,hy,rfl⟩:=hx
        rw[henc,bP,bK]at hc
        obtain⟨u,hu,rfl⟩:=hc
        have hi:i<d'.size:=by have:=(aP.1 hy).1;simpa using this
        have hj:j<k:=by have:=(aP.1 hu).1;rwa[hk]at this
        have hHp:=holdsK_putRowK enc k w b base d.toArray d' hH p1
        have:=HoldsK.cell hHp hi hj
        have ey:d'[i]! =y:=by
         rw[getElem!_pos d' i hi]
         have:d'.toList[i]? =some d'[i]:=by simp[hi]
         rw[this]at hy;exact bH hy
        rw[ey,getElem!_pos (enc y) j (by rw[hk];exact hj)]at this
        have eu:(enc y)[j]'(by rw[hk];exact hj)=u:=by
         rw[aD (by rw[hk];exact hj)]at hu;exact bH hu
        rw[eu]at this
        exact⟨u,this.1,this.2,.v _⟩
      have hput:=step_put (h0:=[]) r (fun id o hg=>by simp[get]at hg) hg hι rfl (writes_putRow (Go.Sort.flatK enc k d') w b base) (fun _ _ h=>h) hι (fun _ _=>rfl) (aM _) r.fresh ho rfl
      have hgr:=rep_grow hput.1 m os
      rw[e0]
      exact⟨hgr.1,.tup [] #[] rfl (fun i x y hx _=>by simp at hx),hput.2.trans hgr.2⟩
end
end Go.Vm
