/- The program's packet sets: Initial. -/
import Derived.Shelf.SlLaysF0
import Derived.Test.YtahhamfngafmcaaGreatDoorProg
import Derived.Shelf.SlSortCmp.WholeK
import Derived.Shelf.SlSortCmp.NoneTotal
import Derived.Test.YtahhamfngafmcaaGreatDoorM22
set_option linter.unusedVariables false
set_option linter.unusedSimpArgs false
set_option maxRecDepth 100000
set_option maxHeartbeats 4000000
namespace Go.Proofs.YtahhamfngafmcaaGreatDoor
open Go Go.Vm
theorem cxInitC(xs:List AV)(n:Nat)(hn:xs.length=n)(hn2:n<1000)(p0 p1 s0 s1 d0 d1:Int){K:KT}
  (hK:K (.tup []) [.box [.os 2 10 0 (n+1)],.box [],.arr 10 (xs++[.agg [.v (.int .u32 0),.v (.int .u32 4294967295),.v (.int .u32 0),.v (.int .u32 4294967295),.v (.int .u32 p0),.v (.int .u32 p1),.v (.int .u32 s0),.v (.int .u32 s1),.v (.int .u32 d0),.v (.int .u32 d1)]])]):
  ACall Tryz.prog 152 [.v (.int .u32 p0),.v (.int .u32 p1),.v (.int .u32 s0),.v (.int .u32 s1),.v (.int .u32 d0),.v (.int .u32 d1),.op 0 0] [.box [.os 1 10 0 n],.arr 10 xs] K:=by
 refine ofxInitC rfl rfl ?_
 (repeat' ((conv=>whnf);first|(with_reducible refine cxFull ?_)|(refine in_c (by decide) ?_)|(with_reducible refine sl_full hn ?_)|refine zG ?_|apply zA|(apply zI;intro h)|exact zT));(all_goals conv=>whnf)
 exact hK
theorem cxInit{K:KT}(hK:K (encXs initS) []):ACall Tryz.prog 92 [] [] K:=by
 have hTop:∀{K:KT},K (.v (.int .u32 65535)) []->ACall Tryz.prog 153 [.v (.int .i64 4)] [] K:=fun h=>cxTop 4 h
 refine ofxInit rfl rfl ?_
 (repeat' ((conv=>whnf);first|(with_reducible refine hTop ?_)|(refine cxInitC _ _ (by rfl) (by decide) _ _ _ _ _ _ ?_)|refine zG ?_|apply zA|(apply zI;intro h)|exact zT));(all_goals conv=>whnf)
 exact hK
inductive Good (l:List Df) (ok:It->Bool):ByteArray->Prop
 |mk {nm:ByteArray} {n:Nat} {d:Df} (h1:findD l nm=some n) (h2:l[n]? =some d) (h3:∀x,x∈d.items->x.kind≠3->ok x=true) (h4:∀x,x∈d.items->x.kind=3->Good l ok x.name):Good l ok nm
inductive Need (l:List Df):Nat->Nat->Prop
 |one {n m:Nat} {d:Df} {x:It} (h1:l[n]? =some d) (h2:x∈d.items) (h3:x.kind=3) (h4:findD l x.name=some m):Need l n m
 |more {n m k:Nat} (h1:Need l n m) (h2:Need l m k):Need l n k
theorem Need.first{l:List Df}{n k:Nat}(h:Need l n k):∃d x m,l[n]? =some d/\x∈d.items/\x.kind=3/\findD l x.name=some m/\(m=k\/Need l m k):=by
 induction h with
 |one h1 h2 h3 h4=>exact⟨_,_,_,h1,h2,h3,h4,.inl rfl⟩
 |more h1 h2 ih1 ih2=>
  obtain⟨d,x,m,g1,g2,g3,g4,g5⟩:=ih1
  refine⟨d,x,m,g1,g2,g3,g4,.inr ?_⟩
  rcases g5 with rfl|g5
  ·exact h2
  ·exact .more g5 h2
section
variable {S U:Type} (v:It->S->Int×S) (mem:S->U->Prop) (vis:It->U->Prop) (ok:It->Bool)
structure Vis:Prop where
 add:∀x s,(v x s).1=0->∀u,mem (v x s).2 u↔(mem s u\/vis x u)
 ok:∀x s,(v x s).1=0↔ok x=true
structure Closed (l:List Df) (d:List Nat) (s:S):Prop where
 it:∀n,n∈d->∀df,l[n]? =some df->∀x,x∈df.items->x.kind≠3->∀u,vis x u->mem s u
 nm:∀n,n∈d->∀df,l[n]? =some df->∀x,x∈df.items->x.kind=3->∃m,m∈d/\findD l x.name=some m
 good:∀n,n∈d->∀nm,findD l nm=some n->Good l ok nm
variable (hv:Vis v mem vis ok)
include hv
end
end Go.Proofs.YtahhamfngafmcaaGreatDoor
namespace Go.Proofs
open Go.Shelf
def Tryz.sortR_ren:Go.Shelf.Ren:=⟨fun|6=>185|15=>208|14=>207|28=>229|29=>230|20=>221|21=>222|22=>223|23=>224|24=>225|25=>226|26=>227|27=>228|46=>239|47=>240|48=>241|49=>242|50=>243|57=>249|n=>n,fun|22=>45|24=>54|25=>218|3=>3|39=>118|0=>0|53=>23|55=>115|4=>4|46=>237|45=>236|50=>241|5=>5|9=>9|66=>253|70=>257|76=>264|77=>172|n=>n,fun|n=>n⟩
theorem Tryz.sortR:Go.Proofs.SlLaysF0.n6 Tryz.prog Tryz.sortR_ren:={
 mixed:=by kernel_rfl
 f6:=⟨Tryz.f185.name,by decide,Tryz.func185.trans (congrArg some (by kernel_rfl))⟩
 f14:=⟨Tryz.f207.name,by decide,Tryz.func207.trans (congrArg some (by kernel_rfl))⟩
 f15:=Tryz.func208.trans (congrArg some (by kernel_rfl))
 f20:=⟨Tryz.f221.name,by decide,Tryz.func221.trans (congrArg some (by kernel_rfl))⟩
 f21:=⟨Tryz.f222.name,by decide,Tryz.func222.trans (congrArg some (by kernel_rfl))⟩
 f22:=⟨Tryz.f223.name,by decide,Tryz.func223.trans (congrArg some (by kernel_rfl))⟩
 f23:=⟨Tryz.f224.name,by decide,Tryz.func224.trans (congrArg some (by kernel_rfl))⟩
 f24:=⟨Tryz.f225.name,by decide,Tryz.func225.trans (congrArg some (by kernel_rfl))⟩
 f25:=⟨Tryz.f226.name,by decide,Tryz.func226.trans (congrArg some (by kernel_rfl))⟩
 f26:=⟨Tryz.f227.name,by decide,Tryz.func227.trans (congrArg some (by kernel_rfl))⟩
 f27:=⟨Tryz.f228.name,by decide,Tryz.func228.trans (congrArg some (by kernel_rfl))⟩
 f28:=Tryz.func229.trans (congrArg some (by kernel_rfl))
 f29:=Tryz.func230.trans (congrArg some (by kernel_rfl))
 f46:=⟨Tryz.f239.name,by decide,Tryz.func239.trans (congrArg some (by kernel_rfl))⟩
 f47:=Tryz.func240.trans (congrArg some (by kernel_rfl))
 f48:=Tryz.func241.trans (congrArg some (by kernel_rfl))
 f49:=⟨Tryz.f242.name,by decide,Tryz.func242.trans (congrArg some (by kernel_rfl))⟩
 f50:=⟨Tryz.f243.name,by decide,Tryz.func243.trans (congrArg some (by kernel_rfl))⟩
 f57:=⟨Tryz.f249.name,by decide,Tryz.func249.trans (congrArg some (by kernel_rfl))⟩
 t0:=Tryz.underlying0
 a0:=Tryz.isAgg0
 z0:=Tryz.sizeOf0
 v0:=Tryz.zeroValue0
 t3:=Tryz.underlying3
 a3:=Tryz.isAgg3
 z3:=Tryz.sizeOf3
 v3:=Tryz.zeroValue3
 t4:=Tryz.underlying4
 a4:=Tryz.isAgg4
 z4:=Tryz.sizeOf4
 v4:=Tryz.zeroValue4
 t5:=Tryz.underlying5
 a5:=Tryz.isAgg5
 z5:=Tryz.sizeOf5
 v5:=Tryz.zeroValue5
 t9:=Tryz.underlying9
 a9:=Tryz.isAgg9
 z9:=Tryz.sizeOf9
 v9:=Tryz.zeroValue9
 t22:=Tryz.underlying45
 a22:=Tryz.isAgg45
 z22:=Tryz.sizeOf45
 v22:=Tryz.zeroValue45
 t25:=Tryz.underlying218
 a25:=Tryz.isAgg218
 z25:=Tryz.sizeOf218
 v25:=Tryz.zeroValue218
 t39:=Tryz.underlying118
 a39:=Tryz.isAgg118
 z39:=Tryz.sizeOf118
 v39:=Tryz.zeroValue118
 t45:=Tryz.underlying236
 a45:=Tryz.isAgg236
 z45:=Tryz.sizeOf236
 v45:=Tryz.zeroValue236
 t46:=Tryz.underlying237
 a46:=Tryz.isAgg237
 z46:=Tryz.sizeOf237
 v46:=Tryz.zeroValue237
 t50:=Tryz.underlying241
 a50:=Tryz.isAgg241
 z50:=Tryz.sizeOf241
 v50:=Tryz.zeroValue241
 t53:=Tryz.underlying23
 a53:=Tryz.isAgg23
 z53:=Tryz.sizeOf23
 v53:=Tryz.zeroValue23
 t55:=Tryz.underlying115
 a55:=Tryz.isAgg115
 z55:=Tryz.sizeOf115
 v55:=Tryz.zeroValue115
 t66:=Tryz.underlying253
 a66:=Tryz.isAgg253
 z66:=Tryz.sizeOf253
 v66:=Tryz.zeroValue253
 t70:=Tryz.underlying257
 a70:=Tryz.isAgg257
 z70:=Tryz.sizeOf257
 v70:=Tryz.zeroValue257
 t76:=Tryz.underlying264
 a76:=Tryz.isAgg264
 z76:=Tryz.sizeOf264
 v76:=Tryz.zeroValue264
 t77:=Tryz.underlying172
 a77:=Tryz.isAgg172
 z77:=Tryz.sizeOf172
 v77:=Tryz.zeroValue172}
end Go.Proofs
namespace Go.Vm
open Go.Sort Go.Proofs Go.Shelf
theorem rep_none(W:World)(hg:GlobOk (fun _=>False) W):Rep noInj (fun _=>False) W ([]:List Obj).length (enumH 0 []):=
 ⟨fun _ _=>rfl,fun id o hg=>by simp[enumH,get]at hg,fun id id' o o' b base base' hg=>by simp[enumH,get]at hg,fun b hb=>hb.elim,hg⟩
theorem grow_of_ext{W w':World}{ι':Inj}{h':Hp}{E':Nat->Prop}(x:Ext noInj (enumH 0 []) (fun _=>False) W ι' h' E' w'):∃q os',w'=grow (W.drewN q) os':=by
 have hno:∀b,¬Own noInj (enumH 0 []) b:=fun b ⟨id,o,base,hg,_⟩=>by simp[enumH,get]at hg
 refine⟨w'.drawn-W.drawn,w'.heap.extract W.heap.size w'.heap.size,?_⟩
 have hh:w'.heap=W.heap++w'.heap.extract W.heap.size w'.heap.size:=by
  apply Array.ext_getElem?
  intro i
  rw[Array.getElem?_append]
  split
  ·rename_i hi
   exact(x.old i hi (hno i)).1
  ·rename_i hi
   rw[Array.getElem?_extract]
   have hsz:=x.size
   split
   ·congr 1;omega
   ·rw[Array.getElem?_eq_none];omega
 have hd:=x.drawn
 have h1:=x.os;have h2:=x.tape;have h3:=x.output
 cases w'
 cases W
 simp only[grow,World.drewN]at*
 subst h1;subst h2;subst h3
 congr 1
 omega
section
variable {P:Program} {α:Type} [Inhabited α]
theorem cmpLays_of{g:Nat}{enc:α->List Value}{k:Nat}{cf:α->α->Int}{blk off size:Nat}{w:World}(hgl:∀(m:Nat) (os:Array Go.Obj) (dk:Array α),GlobOk (fun _=>False) (sortWorldK enc k w blk off m dk os))
  (h:∀x y:α,ACall P g [.agg ((enc x).map .v),.agg ((enc y).map .v)] [] fun r hs=>r=.v (.int .i64 (cf x y))/\hs=[]):CmpLays P g #[] enc k cf blk off size w:=by
 intro m os dk _ x y
 have hgW:=hgl m os dk
 generalize sortWorldK enc k w blk off m dk os=W at hgW⊢
 obtain⟨_,h2⟩:=(h x y).elim
 have one:∀z:α,Rel (fun _=>False) W noInj (.agg ((enc z).map .v)) (.agg (enc z).toArray):=fun z=>
  .agg _ _ (by simp) (fun i a b ha hb=>by
   have hb':(enc z)[i]? =some b:=by simpa using hb
   rw[List.getElem?_map,hb']at ha
   cases ha
   exact .v _)
 have hv:RL (fun _=>False) W noInj [.agg ((enc x).map .v),.agg ((enc y).map .v)] #[.agg (enc x).toArray,.agg (enc y).toArray]:=RL.cons (one x) (RL.cons (one y) rl_nil)
 rw[Array.append_empty]
 refine(h2 noInj _ W _ (rep_none W hgW) hv).mono ?_
 rintro e w' ⟨v,rv,hs',ι',E',rfl,⟨rfl,rfl⟩,_,hr,x⟩
 cases hr
 exact⟨rfl,grow_of_ext x⟩
variable {E:Nat->Prop} {w:World} {ι:Inj} {n:Nat} {h:Hp}
theorem GlobOk.none{E:Nat->Prop}{w:World}(h:GlobOk E w):GlobOk (fun _=>False) w:=fun g cs hg=>by
 obtain⟨_,h2,h3⟩:=h g cs hg
 exact⟨fun f=>f,h2,h3⟩
theorem glob_grow{E:Nat->Prop}{w:World}(h:GlobOk E w)(m:Nat)(os:Array Go.Obj):GlobOk E (grow (Sort.ahead w m) os):=fun g cs hg=>by
 obtain⟨h1,h2,h3⟩:=h g cs hg
 refine⟨h1,?_,fun j y hy=>?_⟩
 ·rw[size_grow];exact Nat.lt_of_lt_of_le h2 (Nat.le_add_right _ _)
 ·rw[cell_of_heap (a:=⟨g,j,Option.none⟩) (heap_grow_old (Sort.ahead w m) os h2)];exact h3 j y hy
theorem rep_grow(r:Rep ι E w n h)(m:Nat)(os:Array Go.Obj):Rep ι E (grow (Sort.ahead w m) os) n h/\Ext ι h E w ι h E (grow (Sort.ahead w m) os):=by
 have hh:∀b,b<w.heap.size->(grow (Sort.ahead w m) os).heap[b]? =w.heap[b]? :=fun b hb=>heap_grow_old (Sort.ahead w m) os hb
 have hsz:w.heap.size<=(grow (Sort.ahead w m) os).heap.size:=by rw[size_grow];exact Nat.le_add_right _ _
 have hc:∀a:Addr,a.block<w.heap.size->(grow (Sort.ahead w m) os).cell? a=w.cell? a:=fun a ha=>cell_of_heap (hh _ ha)
 have hf:∀a:Addr,a.block<w.heap.size->(grow (Sort.ahead w m) os).frozen? a=w.frozen? a:=fun a ha=>by simp only[World.frozen?,hh _ ha]
 have hk:Keeps E w E (grow (Sort.ahead w m) os):=⟨hsz,fun b hb hE=>⟨hh b hb,hE⟩,fun a ha=>by rw[hc a (lt_of_cell ha)];exact ha,fun a ha=>hf a (lt_of_cell ha)⟩
 exact⟨⟨r.fresh,fun id o hg=>(r.obj id o hg).keep hk (fun _ _ h=>h) (fun b base hb=>r.own_E ⟨id,o,base,hg,hb⟩) (fun b base hb=>hh b (own_ne r hg hb)),r.sep,fun b hb=>Nat.lt_of_lt_of_le (r.bound b hb) hsz,r.glob.keep hk⟩,
  ⟨rfl,rfl,rfl,hsz,fun _ _ h=>h,fun b hb _=>⟨hh b hb,Iff.rfl⟩,fun _ _ h=>h,fun a ha=>by rw[hc a (lt_of_cell ha)];exact ha,fun a ha=>hf a ha,by show w.drawn<=w.drawn+m;omega⟩⟩
theorem cell?_putCells(d:Array Value)(w:World)(b off:Nat)(a:Addr)(h:(w.cell? a).isSome=true):((putRow id w b off d).cell? a).isSome=true:=by
 by_cases hb:a.block=b
 ·subst hb
  unfold putRow mapBlock
  simp only[World.cell?,Array.getElem?_modify,if_true]at h⊢
  cases hw:w.heap[a.block]? with
  |none=>simp[hw]at h
  |some o=>
   cases o with
   |cells c e fr=>
    simp only[hw,Option.map_some,onCells]at h⊢
    split at h
    ·simp at h
    ·rename_i hs
     simp only[hs]
     simp only[Bool.false_eq_true,if_false]at h⊢
     rw[Option.isSome_iff_exists]at h⊢
     obtain⟨v,hv⟩:=h
     have hlt:=(Array.getElem?_eq_some_iff.1 hv).1
     exact⟨_,Array.getElem?_eq_getElem (by simpa[putCells]using hlt)⟩
   |_=>simp[hw]at h
 ·rw[show(putRow id w b off d).cell? a=w.cell? a from cell?_putRow_other id w b off d a (Or.inl hb)];exact h
theorem frozen_putRow(d:Array Value)(w:World)(b off:Nat)(a:Addr):(putRow id w b off d).frozen? a=w.frozen? a:=by
 unfold putRow mapBlock World.frozen?
 simp only[Array.getElem?_modify]
 by_cases hb:b=a.block
 ·subst hb
  simp only[if_true]
  cases w.heap[a.block]? with
  |none=>rfl
  |some o=>cases o<;>rfl
 ·simp[hb]
theorem writes_putRow(d:Array Value)(w:World)(b off:Nat):Writes w b (putRow id w b off d):=
 ⟨rfl,rfl,rfl,by simp,fun k hk=>by simp[putRow,mapBlock,Array.getElem?_modify,Ne.symm hk],fun a ha=>cell?_putCells d w b off a ha,fun a=>frozen_putRow d w b off a,rfl⟩
theorem sort_of{f g k:Nat}{enc:α->List Value}{encA:α->AV}{cf:α->α->Int}(hok:okFn P f=true)(hk:∀x,(enc x).length=k)(henc:∀x,(encA x).cells=(enc x).map .v)
  (hsort:∀(blk off cap:Nat) (d:Array α) (w:World),HoldsK enc k w blk off d->blk<w.heap.size->d.size<4611686018427387904->(∀(m:Nat) (os:Array Go.Obj) (dk:Array α),GlobOk (fun _=>False) (sortWorldK enc k w blk off m dk os))->
   Calls P f #[.slice (some ⟨blk,off,none⟩) d.size cap,.func (.func g) #[] #[]] w fun e w'=>e=.returned (.tuple #[])/\∃d' n os,PermIn 0 d.size d d'/\SortedIn (ltOf cf) 0 d.size d'/\w'=sortWorldK enc k w blk off n d' os)
  (hnone:∀(p:Option Addr) (cap:Nat) (fv:Value) (w:World),Calls P f #[.slice p 0 cap,fv] w fun e w'=>e=.returned (.tuple #[])/\w'=w)
  {d:List α}{len:Nat}(hlen:len=d.length)(hd:d.length<4611686018427387904){K:KT}
  (hK:∀d':List α,d'.Perm d->d'.Pairwise (fun x y=>ltOf cf y x=false)->K (.tup []) [.arr k (d'.map encA)]):
  ACall P f [.os 0 k 0 len,.fn (.func g) [] []] [.arr k (d.map encA)] K:=by
 refine ACall.intro hok fun ι E w vals r hv=>?_
 obtain⟨v0,vs,rfl,hv0,hv⟩:=hv.head
 obtain⟨v1,vs,e1,hv1,hv2⟩:=hv.head
 cases e1
 have hvs:vs=[]:=by have:=hv2.nil;simpa using this
 subst hvs
 have hfn:v1=.func (.func g) #[] #[]:=by
  cases hv1 with
  |fn _ _ _ F C hF hC _ _=>
   simp only[List.length_nil]at hF hC
   rw[Array.eq_empty_of_size_eq_zero hF.symm,Array.eq_empty_of_size_eq_zero hC.symm]
 subst hfn
 have hg:get (enumH 0 [.arr k (d.map encA)]) 0=some (.arr k (d.map encA)):=rfl
 rcases Nat.eq_zero_or_pos d.length with h0|h0
 ·have hd0:d=[]:=List.eq_nil_of_length_eq_zero h0
  subst hd0
  have hz:∃p cap,v0=.slice p 0 cap:=by
   subst hlen
   cases hv0 with
   |osz _ _ _ a=>exact⟨a,0,rfl⟩
   |os _ _ _ _ b base cap hι hc h=>exact⟨_,cap,rfl⟩
  obtain⟨p,cap,rfl⟩:=hz
  refine(hnone p cap _ w).mono ?_
  rintro e w' ⟨rfl,rfl⟩
  exact⟨_,.tup [],[.arr k []],ι,E,rfl,hK [] (List.Perm.refl _) List.Pairwise.nil,r,.tup [] #[] rfl (fun i x y hx _=>by simp at hx),Ext.refl⟩
 ·have hpos:0<len:=by omega
  cases hv0 with
  |osz _ _ _ a=>omega
  |os _ _ _ _ b base cap hι hc hcell=>
   have hsz:=sz_of r hg
   rcases r.obj 0 _ hg with⟨h1,_⟩|⟨b',base',h1,h2,h3,h4,h5⟩
   ·rw[hι]at h1;cases h1
   ·rw[hι]at h1;cases h1
    have hbang:∀{l:List α} {i:Nat} (hi:i<l.length),l.toArray[i]! =l[i]:=fun {l i} hi=>by simp[hi]
    have hH:HoldsK enc k w b base d.toArray:=by
     intro t ht
     have ht':t<d.toArray.size*k:=by simpa using ht
     have kp:0<k:=by
      rcases Nat.eq_zero_or_pos k with h0|h0
      ·subst h0;simp at ht'
      ·exact h0
     have hi:t/k<d.length:=by
      rw[Nat.div_lt_iff_lt_mul kp];simpa using ht'
     have hc:=Nat.mod_lt t kp
     rw[get_flatK _ _ _ _ ht',hbang hi]
     have hxi:(d.map encA)[t/k]? =some (encA d[t/k]):=by simp[hi]
     have hcl:(enc d[t/k])[t%k]? =some ((enc d[t/k])[t%k]'(by rw[hk];exact hc)):=List.getElem?_eq_getElem _
     have hcc:(encA d[t/k]).cells[t%k]? =some (.v ((enc d[t/k])[t%k]'(by rw[hk];exact hc))):=by rw[henc,List.getElem?_map,hcl];rfl
     obtain⟨u,e1,e2,e3⟩:=h5 _ _ _ _ hxi hcc
     have hu:u=(enc d[t/k])[t%k]'(by rw[hk];exact hc):=by cases e3;rfl
     have hoff:base+t/k*k+t%k=base+t:=by
      have:=Nat.div_add_mod t k
      rw[Nat.mul_comm]at this
      omega
     rw[hoff]at e1 e2
     refine⟨?_,e2⟩
     rw[e1,hu,getElem!_pos (enc d[t/k]) (t%k) (by rw[hk];exact hc)]
     rfl
    have hgl:∀(m:Nat) (os:Array Go.Obj) (dk:Array α),GlobOk (fun _=>False) (sortWorldK enc k w b base m dk os):=fun m os dk=>by
     have g1:=r.glob.keep ((writes_putRow (flatK enc k dk) w b base).keeps h2)
     exact(glob_grow g1 m os).none
    have h:=hsort b base cap d.toArray w hH h3 (by simpa using hd) hgl
    rw[show base+0*k=base by omega,hlen,show d.length=d.toArray.size by simp]
    refine h.mono ?_
    rintro e w' ⟨rfl,d',m,os,hp,hs,rfl⟩
    obtain⟨p1,p2,p3⟩:=hp
    have hd':d'.size=d.length:=by simpa using p1
    have hH':=holdsK_sortWorldK_c enc k w b base d.toArray d' m os hH h3 p1
    have hperm:d'.toList.Perm d:=by
     have e1:(d'.extract 0 d.toArray.size)=d':=by rw[<-p1];simp
     rw[e1]at p3
     simpa using p3
    refine⟨_,.tup [],[.arr k (d'.toList.map encA)],ι,E,rfl,hK _ hperm ?_,?_⟩
    ·rw[List.pairwise_iff_getElem]
     intro i j hi hj hij
     have:=hs i j (Nat.zero_le _) hij (by simp at hj;simpa[<-hd']using hj)
     simp at hi hj
     rw[getElem!_pos d' i hi,getElem!_pos d' j hj]at this
     simpa using this
    · -- the world: drawn on, the row put, blocks laid behind
      have e0:sortWorldK enc k w b base m d' os=grow (Sort.ahead (putRow id w b base (flatK enc k d')) m) os:=rfl
      have ho:ORel E (putRow id w b base (flatK enc k d')) ι 0 (.arr k (d'.toList.map encA)):=by
       refine .inr ⟨b,base,hι,h2,by simpa using h3,fun i x hx=>?_,fun i x j c hx hc=>?_⟩
       ·rw[List.getElem?_map,Option.map_eq_some_iff]at hx
        obtain⟨y,_,rfl⟩:=hx
        rw[henc,List.length_map,hk]
       ·rw[List.getElem?_map,Option.map_eq_some_iff]at hx
        obtain⟨y,hy,rfl⟩:=hx
        rw[henc,List.getElem?_map,Option.map_eq_some_iff]at hc
        obtain⟨u,hu,rfl⟩:=hc
        have hi:i<d'.size:=by have:=(List.getElem?_eq_some_iff.1 hy).1;simpa using this
        have hj:j<k:=by have:=(List.getElem?_eq_some_iff.1 hu).1;rwa[hk]at this
        have hHp:=holdsK_putRowK enc k w b base d.toArray d' hH p1
        have:=HoldsK.cell hHp hi hj
        have ey:d'[i]! =y:=by
         rw[getElem!_pos d' i hi]
         have:d'.toList[i]? =some d'[i]:=by simp[hi]
         rw[this]at hy;exact Option.some.inj hy
        rw[ey,getElem!_pos (enc y) j (by rw[hk];exact hj)]at this
        have eu:(enc y)[j]'(by rw[hk];exact hj)=u:=by
         rw[List.getElem?_eq_getElem (by rw[hk];exact hj)]at hu;exact Option.some.inj hu
        rw[eu]at this
        exact⟨u,this.1,this.2,.v _⟩
      have hput:=step_put (h0:=[]) r (fun id o hg=>by simp[get]at hg) hg hι rfl (writes_putRow (flatK enc k d') w b base) (fun _ _ h=>h) hι (fun _ _=>rfl) (Nat.le_refl _) r.fresh ho rfl
      have hgr:=rep_grow hput.1 m os
      rw[e0]
      exact⟨hgr.1,.tup [] #[] rfl (fun i x y hx _=>by simp at hx),hput.2.trans hgr.2⟩
end
end Go.Vm
namespace Go.Proofs.YtahhamfngafmcaaGreatDoor
open Go Go.Vm Go.Sort Go.Shelf Go.Proofs
instance:Inhabited Rg:=⟨⟨0,0,by decide,by decide,by decide,by decide⟩⟩
def encV(r:Rg):List Value:=[.int .u32 r.lo,.int .u32 r.hi]
def cmpR(r s:Rg):Int:=cmpI r.lo s.lo
theorem ltR(r s:Rg):ltOf cmpR r s=decide (r.lo<s.lo):=by
 unfold ltOf cmpR cmpI
 by_cases h1:r.lo<s.lo
 ·simp[h1]
 ·by_cases h2:s.lo<r.lo<;>simp[h1,h2]
theorem swoR:SWO (ltOf cmpR) where
 irrefl x:=by rw[ltR];simp
 trans x y z h1 h2:=by rw[ltR]at*;simp at*;omega
 ntrans x y z h1 h2:=by rw[ltR]at*;simp at*;omega
theorem sorts:Sorts:=by
 intro d n hn hd K hK
 have eg:∀args w,(callFunc 186 args).run Tryz.prog w=.ok (.enter 186 args) w:=enters_of Tryz.func186 (by kernel_rfl) rfl
 refine sort_of (k:=2) (enc:=encV) (encA:=encR) (cf:=cmpR) (by kernel_rfl) (fun _=>rfl) (fun _=>rfl) (fun blk off cap d w hH hb hs hgl=>?_) (fun p cap fv w=>?_) hn (by omega) (fun d' hp hs=>hK d' hp (hs.imp fun h=>?_))
 ·exact AnyQ.slices_SortFunc Tryz.sortR 2 Tryz.isAgg54 Tryz.sizeOf54 encV (fun _=>rfl) (fun x v hv=>by simp[encV]at hv;rcases hv with rfl|rfl<;>rfl) cmpR swoR 186 #[] blk off cap d w eg
   (cmpLays_of hgl fun x y=>c47 x y ⟨rfl,rfl⟩) hH hb hs
 ·exact AnyF.slices_SortFunc_none Tryz.sortR p cap fv w
 ·rw[ltR]at h;simp at h;omega
open Go Go.Vm
theorem k39(l:List Rg)(hl:l.length<100000){K:KT}(hK:∀c,Canon c->(∀v,has c v=has l v)->c.length<=l.length->K (encRs c) []):ACall Tryz.prog 142 [encRs l] [] K:=c39 sorts l hl hK
theorem c18(a b:List Rg)(ha:a.length<900)(hb:b.length<900){K:KT}(hK:∀c,Canon c->(∀v,has c v=(has a v||has b v))->c.length<=a.length+b.length->K (encRs c) []):ACall Tryz.prog 85 [encRs a,encRs b] [] K:=by
 refine of18 rfl rfl ?_
 iterate 4 (all_goals((conv=>whnf);first|refine zG ?_|apply zA|(apply zI;intro h)|exact zT|skip))
 refine c40 [a,b] (by simp) (fun l hl=>by
  simp only[List.mem_cons,List.not_mem_nil,or_false]at hl
  rcases hl with rfl|rfl<;>omega) ?_
 (conv=>whnf)
 refine k39 [a,b].flatten (by simp;omega) fun c h1 h2 h3=>?_
 (conv=>whnf)
 refine hK c h1 (fun v=>?_) (by simpa using h3)
 rw[h2]
 simp[has]
structure IInv (A B:List Rg) (i j:Nat) (out:List Rg):Prop where
 canon:Canon out
 sep:∀s,s∈out->∀v,has (A.drop i) v=true->has (B.drop j) v=true->s.hi+1<v
 mem:∀v,(has A v&&has B v)=(has out v||(has (A.drop i) v&&has (B.drop j) v))
 len:out.length<=i+j
theorem has_cons(r:Rg)(l:List Rg)(v:Int):has (r::l) v=((decide (r.lo<=v)&&decide (v<=r.hi))||has l v):=by simp[has]
theorem drop_of{l:List Rg}{i:Nat}{r:Rg}(h:l[i]? =some r):l.drop i=r::l.drop (i+1):=by
 obtain⟨h1,h2⟩:=List.getElem?_eq_some_iff.1 h
 rw[List.drop_eq_getElem_cons h1,h2]
theorem canon_rest{l:List Rg}(h:Canon l){i:Nat}{r:Rg}(hr:l[i]? =some r){v:Int}(hv:has (l.drop (i+1)) v=true):r.hi+1<v:=by
 obtain⟨s,hs,h1,h2⟩:=has_iff.1 hv
 obtain⟨j,hj⟩:=List.getElem?_of_mem hs
 rw[List.getElem?_drop]at hj
 have:=List.pairwise_iff_getElem.1 h.2 i (i+1+j) (List.getElem?_eq_some_iff.1 hr).1 (List.getElem?_eq_some_iff.1 hj).1 (by omega)
 rw[(List.getElem?_eq_some_iff.1 hr).2,(List.getElem?_eq_some_iff.1 hj).2]at this
 omega
theorem canon_rest_f{l:List Rg}(h:Canon l){i:Nat}{r:Rg}(hr:l[i]? =some r){v:Int}(hv:v<=r.hi+1):has (l.drop (i+1)) v=false:=by
 cases hb:has (l.drop (i+1)) v with
 |false=>rfl
 |true=>have:=canon_rest h hr hb;omega
def cross(out:List Rg)(r s:Rg):List Rg:=if max r.lo s.lo<=min r.hi s.hi then out++[mkR (max r.lo s.lo) (min r.hi s.hi)]else out
theorem cross_has(out:List Rg)(r s:Rg)(v:Int):has (cross out r s) v=(has out v||((decide (r.lo<=v)&&decide (v<=r.hi))&&(decide (s.lo<=v)&&decide (v<=s.hi)))):=by
 have b1:=r.l0;have b2:=r.l1;have b3:=r.h0;have b4:=r.h1
 have d1:=s.l0;have d2:=s.l1;have d3:=s.h0;have d4:=s.h1
 unfold cross
 split
 ·rw[has_append,has_one,mkR_lo (by omega) (by omega) (by omega) (by omega),mkR_hi (by omega) (by omega) (by omega) (by omega)]
  congr 1
  rw[Bool.eq_iff_iff]
  simp only[Bool.and_eq_true,decide_eq_true_eq]
  omega
 ·rename_i h
  have:((decide (r.lo<=v)&&decide (v<=r.hi))&&(decide (s.lo<=v)&&decide (v<=s.hi)))=false:=by
   cases hb:((decide (r.lo<=v)&&decide (v<=r.hi))&&(decide (s.lo<=v)&&decide (v<=s.hi)))with
   |false=>rfl
   |true=>simp only[Bool.and_eq_true,decide_eq_true_eq]at hb;omega
  rw[this,Bool.or_false]
theorem cross_canon{A B:List Rg}{i j:Nat}{out:List Rg}{r s:Rg}(h:IInv A B i j out)(hr:A[i]? =some r)(hs:B[j]? =some s):Canon (cross out r s)/\(cross out r s).length<=i+j+1:=by
 have b1:=r.l0;have b2:=r.l1;have b3:=r.h0;have b4:=r.h1
 have d1:=s.l0;have d2:=s.l1;have d3:=s.h0;have d4:=s.h1
 have hl:=h.len
 unfold cross
 split
 ·rename_i hle
  have e1:=mkR_lo (show 0<=max r.lo s.lo by omega) (by omega) (show 0<=min r.hi s.hi by omega) (by omega)
  have e2:=mkR_hi (show 0<=max r.lo s.lo by omega) (by omega) (show 0<=min r.hi s.hi by omega) (by omega)
  refine⟨canon_append_one h.canon (by rw[e1,e2];exact hle) (fun t ht=>?_),by simp;omega⟩
  rw[e1]
  refine h.sep t ht _ ?_ ?_
  ·rw[drop_of hr,has_cons,Bool.or_eq_true,Bool.and_eq_true,decide_eq_true_eq,decide_eq_true_eq];left;omega
  ·rw[drop_of hs,has_cons,Bool.or_eq_true,Bool.and_eq_true,decide_eq_true_eq,decide_eq_true_eq];left;omega
 ·exact⟨h.canon,by omega⟩
theorem cross_ends{out:List Rg}{r s t:Rg}(ht:t∈cross out r s):t∈out\/(t.hi<=r.hi/\t.hi<=s.hi):=by
 have b1:=r.l0;have b2:=r.l1;have b3:=r.h0;have b4:=r.h1
 have d1:=s.l0;have d2:=s.l1;have d3:=s.h0;have d4:=s.h1
 unfold cross at ht
 split at ht
 ·rcases List.mem_append.1 ht with ht|ht
  ·exact .inl ht
  ·simp at ht;subst ht
   right
   rw[mkR_hi (by omega) (by omega) (by omega) (by omega)]
   omega
 ·exact .inl ht
theorem iinv_left{A B:List Rg}{i j:Nat}{out:List Rg}{r s:Rg}(hA:Canon A)(hB:Canon B)(h:IInv A B i j out)(hr:A[i]? =some r)(hs:B[j]? =some s)(hlt:r.hi<s.hi):IInv A B (i+1) j (cross out r s):=by
 obtain⟨c1,c2⟩:=cross_canon h hr hs
 refine⟨c1,fun t ht v h1 h2=>?_,fun v=>?_,by omega⟩
 ·rcases cross_ends ht with ht|ht
  ·exact h.sep t ht v (by rw[drop_of hr,has_cons,h1,Bool.or_true]) h2
  ·have:=canon_rest hA hr h1;omega
 ·rw[h.mem,cross_has,drop_of hr,has_cons,drop_of hs,has_cons]
  rcases Int.lt_or_le (r.hi) v with h1|h1
  ·rw[show decide (v<=r.hi)=false from decide_eq_false (by omega)];simp
  ·rw[canon_rest_f hA hr (by omega),canon_rest_f hB hs (by omega)]
   cases has out v<;>cases (decide (r.lo<=v)&&decide (v<=r.hi))<;>cases (decide (s.lo<=v)&&decide (v<=s.hi))<;>rfl
theorem iinv_right{A B:List Rg}{i j:Nat}{out:List Rg}{r s:Rg}(hA:Canon A)(hB:Canon B)(h:IInv A B i j out)(hr:A[i]? =some r)(hs:B[j]? =some s)(hge:s.hi<=r.hi):IInv A B i (j+1) (cross out r s):=by
 obtain⟨c1,c2⟩:=cross_canon h hr hs
 refine⟨c1,fun t ht v h1 h2=>?_,fun v=>?_,by omega⟩
 ·rcases cross_ends ht with ht|ht
  ·exact h.sep t ht v h1 (by rw[drop_of hs,has_cons,h2,Bool.or_true])
  ·have:=canon_rest hB hs h2;omega
 ·rw[h.mem,cross_has,drop_of hr,has_cons,drop_of hs,has_cons]
  rcases Int.lt_or_le (s.hi) v with h1|h1
  ·rw[show decide (v<=s.hi)=false from decide_eq_false (by omega)];simp
  ·rw[canon_rest_f hA hr (by omega),canon_rest_f hB hs (by omega)]
   cases has out v<;>cases (decide (r.lo<=v)&&decide (v<=r.hi))<;>cases (decide (s.lo<=v)&&decide (v<=s.hi))<;>rfl
theorem c19(a b:List Rg)(ha:a.length<10000)(hb:b.length<10000){K:KT}
  (hK:∀out,Canon out->(∀v,has out v=(has a v&&has b v))->out.length<=a.length+b.length->K (encRs out) []):ACall Tryz.prog 183 [encRs a,encRs b] [] K:=by
 refine of19 rfl rfl ?_
 (conv=>whnf)
 refine k39 a (by omega) fun A g1 g2 g3=>?_
 (conv=>whnf)
 refine k39 b (by omega) fun B f1 f2 f3=>?_
 (conv=>whnf)
 refine Lp.intro (Nat×Nat×List Rg) (fun g=>⟨1,[(0,.arr 2 (g.2.2.map encR))],[(0,encRs A),(1,encRs B),(5,.os 0 2 0 g.2.2.length),(6,.v (.int .i64 g.1)),(7,.v (.int .i64 g.2.1))]⟩)
  (fun g=>g.1<=A.length/\g.2.1<=B.length/\IInv A B g.1 g.2.1 g.2.2) (fun g=>(A.length-g.1)+(B.length-g.2.1)) (0,0,[]) ?_ ?_ ?_
 ·exact⟨Nat.zero_le _,Nat.zero_le _,canon_nil,fun s hs=>by simp at hs,fun v=>by simp[has_nil],Nat.le_refl _⟩
 ·exact⟨[(0,0)],rfl,⟨rfl,rfl,rfl,rfl,rfl,trivial⟩,⟨rfl,trivial⟩⟩
 ·rintro⟨i,j,out⟩ ⟨hi,hj,hinv⟩
  simp only at hi hj hinv⊢
  have hlen:=hinv.len
  have fin:(∀v,(has (A.drop i) v&&has (B.drop j) v)=false)->K (encRs out) []:=fun he=>
   hK out hinv.canon (fun v=>by rw[<-g2,<-f2,hinv.mem,he,Bool.or_false]) (by omega)
  rcases Nat.lt_or_ge i A.length with hil|hil
  ·rcases Nat.lt_or_ge j B.length with hjl|hjl
   ·obtain⟨r,hr⟩:=gex hil
    obtain⟨s,hs⟩:=gex hjl
    have b1:=r.l0;have b2:=r.l1;have b3:=r.h0;have b4:=r.h1
    have d1:=s.l0;have d2:=s.l1;have d3:=s.h0;have d4:=s.h1
    have e0:max r.lo s.lo<=min r.hi s.hi->cross out r s=out++[mkR (max r.lo s.lo) (min r.hi s.hi)]:=fun h=>by unfold cross;rw[if_pos h]
    have e1:¬max r.lo s.lo<=min r.hi s.hi->cross out r s=out:=fun h=>by unfold cross;rw[if_neg h]
    have e2:=enc_mkR (show 0<=max r.lo s.lo by omega) (by omega) (show 0<=min r.hi s.hi by omega) (by omega)
    iterate 90 (all_goals((conv=>whnf);first|(with_reducible first|refine in_map hil ?_|refine in_map hjl ?_|refine ix_map hr ?_|refine ix_map hs ?_)|refine zG ?_|apply zA|(apply zI;intro h)|exact zT|skip))
    ·have h:=iinv_left g1 f1 hinv hr hs (by assumption)
     rw[e0 (by assumption)]at h
     refine⟨(i+1,j,out++[mkR (max r.lo s.lo) (min r.hi s.hi)]),⟨by simp only;omega,hj,h⟩,by simp only;omega,?_⟩
     simp only[List.map_append,List.map_cons,List.map_nil,List.length_append,List.length_cons,List.length_nil]
     rw[e2]
     exact⟨[(0,2)],rfl,⟨rfl,rfl,rfl,rfl,rfl,trivial⟩,⟨rfl,trivial⟩⟩
    ·have h:=iinv_right g1 f1 hinv hr hs (by omega)
     rw[e0 (by assumption)]at h
     refine⟨(i,j+1,out++[mkR (max r.lo s.lo) (min r.hi s.hi)]),⟨hi,by simp only;omega,h⟩,by simp only;omega,?_⟩
     simp only[List.map_append,List.map_cons,List.map_nil,List.length_append,List.length_cons,List.length_nil]
     rw[e2]
     exact⟨[(0,2)],rfl,⟨rfl,rfl,rfl,rfl,rfl,trivial⟩,⟨rfl,trivial⟩⟩
    ·have h:=iinv_left g1 f1 hinv hr hs (by assumption)
     rw[e1 (by assumption)]at h
     exact⟨(i+1,j,out),⟨by simp only;omega,hj,h⟩,by simp only;omega,⟨[(0,0)],rfl,⟨rfl,rfl,rfl,rfl,rfl,trivial⟩,⟨rfl,trivial⟩⟩⟩
    ·have h:=iinv_right g1 f1 hinv hr hs (by omega)
     rw[e1 (by assumption)]at h
     exact⟨(i,j+1,out),⟨hi,by simp only;omega,h⟩,by simp only;omega,⟨[(0,0)],rfl,⟨rfl,rfl,rfl,rfl,rfl,trivial⟩,⟨rfl,trivial⟩⟩⟩
   ·iterate 10 (all_goals((conv=>whnf);first|(with_reducible first|refine in_map hil ?_|refine in_map hjl ?_)|refine zG ?_|apply zA|(apply zI;intro h)|exact zT|skip))
    exact fin fun v=>by rw[List.drop_of_length_le hjl,has_nil,Bool.and_false]
  ·iterate 10 (all_goals((conv=>whnf);first|(with_reducible refine in_map hil ?_)|refine zG ?_|apply zA|(apply zI;intro h)|exact zT|skip))
   exact fin fun v=>by rw[List.drop_of_length_le hil,has_nil,Bool.false_and]
theorem ckDig(n:Int){K:KT}(hK:∀s:ByteArray,s.size<=2->K (.v (.string s)) []):ACall Tryz.prog 206 [.v (.int .i64 n)] [] K:=by
 refine ofkDig rfl rfl ?_
 (repeat' ((conv=>whnf);first|(with_reducible first|refine Ob.intro (by decide) ?_|refine wr_any fun r=>?_)|(refine sl_full (by rfl) ?_)|refine zG ?_|apply zA|(apply zI;intro h)|exact zT));(all_goals conv=>whnf)
 exact hK _ (by rw[strOfNums_size];simp)
theorem ckTime(n:Int){K:KT}(hK:∀s:ByteArray,s.size<=5->K (.v (.string s)) []):ACall Tryz.prog 184 [.v (.int .i64 n)] [] K:=by
 have z1:(⟨#[58]⟩:ByteArray).size=1:=rfl
 refine ofkTime rfl rfl ?_
 (repeat' ((conv=>whnf);first|(with_reducible first|refine Ob.intro (by decide) ?_|refine wr_any fun r=>?_|refine ckDig _ fun s hs=>?_|refine Ob.intro (by(try simp only[ByteArray.size_append]);omega) ?_)|refine zG ?_|apply zA|(apply zI;intro h)|exact zT));(all_goals conv=>whnf)
 exact hK _ (by simp only[ByteArray.size_append];omega)
theorem ckForm(l:List Rg)(hl:l.length<=4000){K:KT}(hK:∀ss:List ByteArray,ss.length=fmtL l->ss.length<=300000->K (.lst (ss.map encSt)) []):ACall Tryz.prog 136 [encRs l] [] K:=by
 refine ACall.weak (ofkForm rfl rfl ?_)
 (repeat' ((conv=>whnf);first|(with_reducible refine c28 l 10079 (by omega) fun s hs=>?_)|(refine sl_full (by rfl) ?_)|refine zG ?_|apply zA|(apply zI;intro h)|exact zT));(all_goals conv=>whnf)
 all_goals first
  |exact⟨_,Weak.nils,hK [] (by rw[fmtL,if_neg (fun hh=>by have:=hs.2 hh;simp_all)];rfl) (by simp)⟩
  |exact⟨_,Weak.refl,hK [⟨#[110,101,118,101,114]⟩] (by
    have hl0:l=[]:=List.length_eq_zero_iff.1 (by simp only[List.length_map]at*;omega)
    rw[fmtL,if_pos (hs.1 (by simp_all)),fmtN,if_pos hl0];rfl) (by simp)⟩
  |skip
 have hv:Canon l/\∀r,r∈l->r.hi<=10079:=hs.1 (by simp_all)
 have hne:l≠[]:=fun e=>by subst e;simp_all
 rw[fmtL,if_pos hv,fmtN,if_neg hne]at hK
 refine Lp.intro (Nat×List ByteArray) (fun g=>⟨1,[(0,.arr 1 (g.2.map encSt))],[(0,encRs l),(3,.os 0 1 0 g.2.length),(16,.agg (dayL.map encSt)),(17,.v (.int .i64 g.1))]⟩)
  (fun g=>g.1<=7/\g.2.length<=40000*g.1/\g.2.length=3*cntW l g.1-1) (fun g=>7-g.1) (0,[]) ⟨Nat.zero_le _,Nat.zero_le _,rfl⟩ ?_ ?_
 ·(exact leA)
 rintro⟨d,ss⟩ ⟨hd,hss,hsn⟩
 simp only at hd hss hsn⊢
 rcases Nat.lt_or_ge d 7 with hd7|hd7
 ·have hint:∀{K:KT},(∀out,Canon out->(∀v,has out v=(has l v&&has [mkR (1440*d) (1440*d+1439)] v))->out.length<=l.length+1->K (encRs out) [])->ACall Tryz.prog 183 [encRs l,.lst [encR (mkR (1440*d) (1440*d+1439))]] [] K:=fun h=>c19 l [mkR (1440*d) (1440*d+1439)] (by omega) (by simp) h
  have m1:(mkR (1440*(d:Int)) (1440*d+1439)).lo=1440*d:=mkR_lo (by omega) (by omega) (by omega) (by omega)
  have m2:(mkR (1440*(d:Int)) (1440*d+1439)).hi=1440*d+1439:=mkR_hi (by omega) (by omega) (by omega) (by omega)
  have hint2:∀{K:KT},(∀out,Canon out->(∀v,has out v=(has l v&&has [mkR (1440*d) (1440*d+1439)] v))->out.length<=l.length+1->K (encRs out) [])->ACall Tryz.prog 183 [encRs l,.lst [.agg [.v (.int .u32 ((d:Int)*1440)),.v (.int .u32 ((d:Int)*1440+1440-1))]]] [] K:=fun h=>by
   have:=hint h
   simp only[encR,m1,m2]at this
   rw[show(d:Int)*1440=1440*d by omega,show 1440*(d:Int)+1440-1=1440*d+1439 by omega]
   exact this
  (repeat' ((conv=>whnf);first|refine zG ?_|apply zA|(apply zI;intro h)|exact zT));(all_goals conv=>whnf)
  refine Jn.intro ByteArray (fun c=>⟨1,[(0,.arr 1 (ss.map encSt))],[(0,encRs l),(3,.os 0 1 0 ss.length),(4,.v (.int .i64 d)),(5,.v (.string c)),(16,.agg (dayL.map encSt)),(17,.v (.int .i64 d))]⟩) (fun c=>c.size<=3) ?_ ?_
  ·obtain rfl|rfl|rfl|rfl|rfl|rfl|rfl:d=0\/d=1\/d=2\/d=3\/d=4\/d=5\/d=6:=by omega
   all_goals
    (repeat' ((conv=>whnf);first|(with_reducible refine In.intro _ rfl (by decide) ?_)|refine zG ?_|apply zA|(apply zI;intro h)|exact zT));(all_goals conv=>whnf)
    first
     |(refine⟨⟨#[109,111,110]⟩,by decide,?_⟩
       (exact leA)
       done)
     |(refine⟨⟨#[116,117,101]⟩,by decide,?_⟩
       (exact leA)
       done)
     |(refine⟨⟨#[119,101,100]⟩,by decide,?_⟩
       (exact leA)
       done)
     |(refine⟨⟨#[116,104,117]⟩,by decide,?_⟩
       (exact leA)
       done)
     |(refine⟨⟨#[102,114,105]⟩,by decide,?_⟩
       (exact leA)
       done)
     |(refine⟨⟨#[115,97,116]⟩,by decide,?_⟩
       (exact leA)
       done)
     |(refine⟨⟨#[115,117,110]⟩,by decide,?_⟩
       (exact leA)
       done)
  intro dn hdn
  (repeat' ((conv=>whnf);first|(with_reducible first|refine wr_i64 rfl (by omega) (by omega) ?_|refine wr_u32 rfl (by omega) (by omega) ?_)|(refine sl_full (by rfl) ?_)|(with_reducible refine hint2 fun out ho hh hn=>?_)|refine zG ?_|apply zA|(apply zI;intro h)|exact zT));(all_goals conv=>whnf)
  have hday:dayW l d=out:=dayW_eq ho fun v=>by
   rw[hh v]
   rw[has_day hd7]
  have hcs:=cntW_succ l d
  rw[hday]at hcs
  refine Lp.intro (Nat×List ByteArray) (fun g=>⟨3,[(0,.arr 1 (g.2.map encSt)),(1,.box [.v (.int .u32 ((d:Int)*1440)),.v (.int .u32 ((d:Int)*1440+1440-1))])],[(0,encRs l),(3,.os 0 1 0 g.2.length),(5,.v (.string dn)),(6,.op 1 0),(16,.agg (dayL.map encSt)),(17,.v (.int .i64 d)),(33,encRs out),(34,.v (.int .i64 (out.map encR).length)),(35,.v (.int .i64 g.1))]⟩)
   (fun g=>g.1<=out.length/\g.2.length<=ss.length+3*g.1/\g.2.length=3*(cntW l d+g.1)-1) (fun g=>out.length-g.1) (0,ss) ⟨Nat.zero_le _,by simp only;omega,by simp only;omega⟩ ?_ ?_
  ·(exact leA)
  rintro⟨i,st⟩ ⟨hi,hst,hstn⟩
  simp only at hi hst hstn⊢
  rcases Nat.lt_or_ge i out.length with hil|hil
  ·obtain⟨r,hr⟩:=gex hil
   have hrm:=List.mem_of_getElem? hr
   have hle:=canon_le ho hrm
   have hb:∀v,r.lo<=v->v<=r.hi->1440*(d:Int)<=v/\v<=1440*d+1439:=fun v h1 h2=>by
    have h3:has out v=true:=has_iff.2 ⟨r,hrm,h1,h2⟩
    rw[hh,has_day hd7]at h3
    simp only[Bool.and_eq_true,decide_eq_true_eq]at h3
    exact h3.2
   have hb1:=hb r.lo (Int.le_refl _) hle
   have hb2:=hb r.hi hle (Int.le_refl _)
   (repeat' ((conv=>whnf);first|(with_reducible first|refine in_map hil ?_|refine ix_map hr ?_)|refine zG ?_|apply zA|(apply zI;intro h)|exact zT));(all_goals conv=>whnf)
   refine Jn.intro (List ByteArray) (fun g=>⟨4,[(0,.arr 1 (g.map encSt)),(1,.box [.v (.int .u32 ((d:Int)*1440)),.v (.int .u32 ((d:Int)*1440+1440-1))]),(3,.box [.v (.int .u32 r.lo),.v (.int .u32 r.hi)])],[(0,encRs l),(3,.os 0 1 0 g.length),(5,.v (.string dn)),(6,.op 1 0),(8,.op 3 0),(16,.agg (dayL.map encSt)),(17,.v (.int .i64 d)),(33,encRs out),(34,.v (.int .i64 (out.map encR).length)),(35,.v (.int .i64 i))]⟩) (fun g=>g.length<=st.length+1/\g.length=3*(cntW l d+i)) ?_ ?_
   ·(repeat' ((conv=>whnf);first|(refine sl_full (by rfl) ?_)|refine zG ?_|apply zA|(apply zI;intro h)|exact zT));(all_goals conv=>whnf)
    ·refine⟨st++[⟨#[44]⟩],⟨by simp,by simp only[List.length_append,List.length_cons,List.length_nil];omega⟩,?_⟩
     simp only[List.map_append,List.length_append,List.map_cons,List.map_nil,List.length_cons,List.length_nil]
     (exact leA)
    ·refine⟨st,⟨by omega,by omega⟩,?_⟩
     (exact leA)
   rintro su ⟨hsu,hsun⟩
   have z1:(⟨#[45]⟩:ByteArray).size=1:=rfl
   (repeat' ((conv=>whnf);first|(with_reducible first|refine wr_u32 rfl (by omega) (by omega) ?_|refine wr_i64 rfl (by omega) (by omega) ?_|refine ckTime _ fun s hs=>?_)|(refine sl_full (by rfl) ?_)|(with_reducible refine Ob.intro (by(try simp only[ByteArray.size_append]);omega) ?_)|refine zG ?_|apply zA|(apply zI;intro h)|exact zT));(all_goals conv=>whnf)
   rename_i q1 sA hsA
   refine⟨(i+1,su++[dn,sA++⟨#[45]⟩++s]),⟨by simp only;omega,by simp only[List.length_append,List.length_cons,List.length_nil];omega,by simp only[List.length_append,List.length_cons,List.length_nil];omega⟩,by simp only;omega,?_⟩
   simp only[List.map_append,List.length_append,List.map_cons,List.map_nil,List.length_cons,List.length_nil,Int.natCast_add,Int.natCast_one]
   (exact leA)
  ·(repeat' ((conv=>whnf);first|refine zG ?_|apply zA|(apply zI;intro h)|exact zT));(all_goals conv=>whnf)
   refine⟨(d+1,st),⟨by simp only;omega,by simp only;omega,by simp only;omega⟩,by simp only;omega,?_⟩
   rw[show(((d+1,st):Nat×List ByteArray).1:Int)=(d:Int)+1 from by simp only;omega]
   (exact leA)
 ·(repeat' ((conv=>whnf);first|(with_reducible refine sl_full (List.length_map ..) ?_)|refine zG ?_|apply zA|(apply zI;intro h)|exact zT));(all_goals conv=>whnf)
  exact⟨_,Weak.refl,hK ss (by rw[hsn,show d=7 by omega]) (by omega)⟩
theorem ckPrt(p:Int)(r:Rg){K:KT}(hK:K (.sb (prB p r)) []):ACall Tryz.prog 181 [.v (.int .i64 p),.agg [.v (.int .u32 r.lo),.v (.int .u32 r.hi)]] [] K:=by
 refine ACall.bool (ofiPrt rfl rfl ?_)
 have hl0:=r.l0
 (repeat' ((conv=>whnf);first|(refine eqw_Rg ?_)|refine zG ?_|apply zA|(apply zI;intro h)|exact zT));(all_goals conv=>whnf)
 all_goals first
  |refine fin_t hK ?_
  |refine fin_f hK ?_
  |refine fin_s hK ?_
 all_goals
  unfold prB
  simp_all
 all_goals first
  |omega
  |(rw[if_neg (by omega),if_neg (by omega)];intros;omega)
theorem ckItem(x:It)(v:Bool){K:KT}(hK:K (.sb (itB x (!v))) []):ACall Tryz.prog 135 [encIt x,.sb v] [] K:=by
 refine ACall.bool (ofiItem rfl rfl ?_)
 have hs:=sEq_self x.name
 (repeat' ((conv=>whnf);first|(with_reducible first|refine csName _ ?_|refine cpVal x.pf ?_|refine ckPrt x.proto x.ports ?_)|(refine eqw_It ?_)|refine zG ?_|apply zA|(apply zI;intro h)|exact zT));(all_goals conv=>whnf)
 all_goals first
  |refine fin_t hK ?_
  |refine fin_f hK ?_
  |refine fin_s hK ?_
 all_goals
  unfold itB
  simp_all[itN,itP,itS]
theorem ckOpt(s:ByteArray){K:KT}(hK:K (.sb (optB s)) []):ACall Tryz.prog 140 [.v (.string s)] [] K:=by
 refine ACall.bool (ofiEmp rfl rfl ?_)
 (repeat' ((conv=>whnf);first|(with_reducible refine csName _ ?_)|refine zG ?_|apply zA|(apply zI;intro h)|exact zT));(all_goals conv=>whnf)
 all_goals first
  |exact fin_t hK (by unfold optB sEq;simp_all)
  |exact fin_s hK (by unfold optB sEq;simp_all)
  |trace_state
theorem ckWri(l:List Rg)(hl:l.length<=4000){K:KT}(hK:∀ss:List ByteArray,K (.tup [.lst (ss.map encSt),.sb (winB l)]) []):ACall Tryz.prog 76 [encRs l] [] K:=by
 have h1:1<=fmtN l\/l≠[]:=by
  by_cases h:l=[]
  ·left;rw[fmtN,if_pos h];exact Nat.le_refl _
  ·exact .inr h
 refine ACall.weak (ofiWri rfl rfl ?_)
 (repeat' ((conv=>whnf);first|(with_reducible refine ckForm l hl fun ss hss hsl=>?_)|refine zG ?_|apply zA|(apply zI;intro h)|exact zT));(all_goals conv=>whnf)
 ·have hq2:(((ss.map encSt).length:Int)+1).tdiv 3=(((ss.length+1)/3:Nat):Int):=by rw[List.length_map,Int.tdiv_eq_ediv_of_nonneg (by omega)];omega
  (repeat' ((conv=>whnf);first|(with_reducible first|refine wr_i64 hq2 (by omega) (by omega) ?_|refine wr_i64 rfl (by(try simp only[List.length_map]);omega) (by(try simp only[List.length_map]);omega) ?_|refine Ob.intro (by decide) ?_)|refine zG ?_|apply zA|(apply zI;intro h)|exact zT));(all_goals conv=>whnf)
  refine⟨_,Weak.refl,?_⟩
  have e:decide ((((ss.length+1)/3:Nat):Int)<=16)=winB l:=by
   rw[Bool.eq_iff_iff,winB_iff,win_iff,decide_eq_true_eq]
   unfold fmtL at hss
   simp only[List.length_map]at h
   by_cases hv:Canon l/\∀r,r∈l->r.hi<=10079
   ·rw[if_pos hv]at hss
    have h3:fmtN l=1\/fmtN l=3*cntW l 7-1:=by
     unfold fmtN;split
     ·exact .inl rfl
     ·exact .inr rfl
    exact⟨fun h=>⟨hv,by omega⟩,fun h=>by omega⟩
   ·rw[if_neg hv]at hss;omega
  rw[e];exact hK _
 ·refine⟨_,Weak.tup2 Weak.refl Weak.bool,?_⟩
  have e:winB l=false:=by
   rw[Bool.eq_false_iff,ne_eq,winB_iff,win_iff]
   rintro⟨hv,_⟩
   rw[fmtL,if_pos hv]at hss
   simp only[List.length_map]at h
   have h0:fmtN l=0:=by omega
   rcases h1 with h1|h1
   ·omega
   ·have:=dayW_ne hv.1 hv.2 h1
    rw[fmtN,if_neg h1]at h0;omega
  rw[<-e];exact hK _
theorem ckSm(x:Sm){K:KT}(hK:K (.sb (smB x)) []):ACall Tryz.prog 82 [encSm x] [] K:=by
 refine ACall.bool (ofiSm rfl rfl ?_)
 (repeat' ((conv=>whnf);first|(with_reducible first|refine Lp.times 8 ?_|refine ckOpt _ ?_)|(refine in_c (by decide) ?_)|(refine Ix.intro rfl ?_)|refine zG ?_|apply zA|(apply zI;intro h)|exact zT));(all_goals conv=>whnf)
 all_goals first
  |refine fin_t hK ?_
  |refine fin_f hK ?_
  |refine fin_s hK ?_
 all_goals
  unfold smB
  simp_all[sEq]
 all_goals omega
end Go.Proofs.YtahhamfngafmcaaGreatDoor
