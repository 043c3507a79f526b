/- slices.SortFunc of the library, laid at this program: which function is which. Written by the lay-plain tool of the kit. -/
import Derived.Shelf.SlLaysF0
import Derived.Test.YtahhamfngafmcaaGreatDoorProg
import Derived.Shelf.SlSortCmp.WholeK
import Derived.Shelf.SlSortCmp.NoneTotal
import Derived.Test.YtahhamfngafmcaaGreatDoorM26
set_option linter.unusedVariables false
set_option linter.unusedSimpArgs false
set_option maxRecDepth 100000
set_option maxHeartbeats 4000000
namespace Go.Proofs
open Go.Shelf
def Tryz.sortR_ren:Go.Shelf.Ren:=⟨fun|6=>185|15=>208|14=>207|28=>229|29=>230|20=>221|21=>222|22=>223|23=>224|24=>225|25=>226|26=>227|27=>228|46=>239|47=>240|48=>241|49=>242|50=>243|57=>249|n=>n,fun|22=>45|24=>54|25=>218|3=>3|39=>118|0=>0|53=>23|55=>115|4=>4|46=>237|45=>236|50=>241|5=>5|9=>9|66=>253|70=>257|76=>264|77=>172|n=>n,fun|n=>n⟩
theorem Tryz.sortR:Go.Proofs.SlLaysF0.n6 Tryz.prog Tryz.sortR_ren:={
 mixed:=by kernel_rfl
 f6:=⟨Tryz.f185.name,by decide,Tryz.func185.trans (congrArg some (by kernel_rfl))⟩
 f14:=⟨Tryz.f207.name,by decide,Tryz.func207.trans (congrArg some (by kernel_rfl))⟩
 f15:=Tryz.func208.trans (congrArg some (by kernel_rfl))
 f20:=⟨Tryz.f221.name,by decide,Tryz.func221.trans (congrArg some (by kernel_rfl))⟩
 f21:=⟨Tryz.f222.name,by decide,Tryz.func222.trans (congrArg some (by kernel_rfl))⟩
 f22:=⟨Tryz.f223.name,by decide,Tryz.func223.trans (congrArg some (by kernel_rfl))⟩
 f23:=⟨Tryz.f224.name,by decide,Tryz.func224.trans (congrArg some (by kernel_rfl))⟩
 f24:=⟨Tryz.f225.name,by decide,Tryz.func225.trans (congrArg some (by kernel_rfl))⟩
 f25:=⟨Tryz.f226.name,by decide,Tryz.func226.trans (congrArg some (by kernel_rfl))⟩
 f26:=⟨Tryz.f227.name,by decide,Tryz.func227.trans (congrArg some (by kernel_rfl))⟩
 f27:=⟨Tryz.f228.name,by decide,Tryz.func228.trans (congrArg some (by kernel_rfl))⟩
 f28:=Tryz.func229.trans (congrArg some (by kernel_rfl))
 f29:=Tryz.func230.trans (congrArg some (by kernel_rfl))
 f46:=⟨Tryz.f239.name,by decide,Tryz.func239.trans (congrArg some (by kernel_rfl))⟩
 f47:=Tryz.func240.trans (congrArg some (by kernel_rfl))
 f48:=Tryz.func241.trans (congrArg some (by kernel_rfl))
 f49:=⟨Tryz.f242.name,by decide,Tryz.func242.trans (congrArg some (by kernel_rfl))⟩
 f50:=⟨Tryz.f243.name,by decide,Tryz.func243.trans (congrArg some (by kernel_rfl))⟩
 f57:=⟨Tryz.f249.name,by decide,Tryz.func249.trans (congrArg some (by kernel_rfl))⟩
 t0:=Tryz.underlying0
 a0:=Tryz.isAgg0
 z0:=Tryz.sizeOf0
 v0:=Tryz.zeroValue0
 t3:=Tryz.underlying3
 a3:=Tryz.isAgg3
 z3:=Tryz.sizeOf3
 v3:=Tryz.zeroValue3
 t4:=Tryz.underlying4
 a4:=Tryz.isAgg4
 z4:=Tryz.sizeOf4
 v4:=Tryz.zeroValue4
 t5:=Tryz.underlying5
 a5:=Tryz.isAgg5
 z5:=Tryz.sizeOf5
 v5:=Tryz.zeroValue5
 t9:=Tryz.underlying9
 a9:=Tryz.isAgg9
 z9:=Tryz.sizeOf9
 v9:=Tryz.zeroValue9
 t22:=Tryz.underlying45
 a22:=Tryz.isAgg45
 z22:=Tryz.sizeOf45
 v22:=Tryz.zeroValue45
 t25:=Tryz.underlying218
 a25:=Tryz.isAgg218
 z25:=Tryz.sizeOf218
 v25:=Tryz.zeroValue218
 t39:=Tryz.underlying118
 a39:=Tryz.isAgg118
 z39:=Tryz.sizeOf118
 v39:=Tryz.zeroValue118
 t45:=Tryz.underlying236
 a45:=Tryz.isAgg236
 z45:=Tryz.sizeOf236
 v45:=Tryz.zeroValue236
 t46:=Tryz.underlying237
 a46:=Tryz.isAgg237
 z46:=Tryz.sizeOf237
 v46:=Tryz.zeroValue237
 t50:=Tryz.underlying241
 a50:=Tryz.isAgg241
 z50:=Tryz.sizeOf241
 v50:=Tryz.zeroValue241
 t53:=Tryz.underlying23
 a53:=Tryz.isAgg23
 z53:=Tryz.sizeOf23
 v53:=Tryz.zeroValue23
 t55:=Tryz.underlying115
 a55:=Tryz.isAgg115
 z55:=Tryz.sizeOf115
 v55:=Tryz.zeroValue115
 t66:=Tryz.underlying253
 a66:=Tryz.isAgg253
 z66:=Tryz.sizeOf253
 v66:=Tryz.zeroValue253
 t70:=Tryz.underlying257
 a70:=Tryz.isAgg257
 z70:=Tryz.sizeOf257
 v70:=Tryz.zeroValue257
 t76:=Tryz.underlying264
 a76:=Tryz.isAgg264
 z76:=Tryz.sizeOf264
 v76:=Tryz.zeroValue264
 t77:=Tryz.underlying172
 a77:=Tryz.isAgg172
 z77:=Tryz.sizeOf172
 v77:=Tryz.zeroValue172}
end Go.Proofs
namespace Go.Vm
open Go.Sort Go.Proofs Go.Shelf
theorem rep_none(W:World)(hg:GlobOk (fun _=>False) W):Rep noInj (fun _=>False) W ([]:List Obj).length (enumH 0 []):=
 ⟨fun _ _=>rfl,fun id o hg=>by simp[enumH,get]at hg,fun id id' o o' b base base' hg=>by simp[enumH,get]at hg,fun b hb=>hb.elim,hg⟩
theorem grow_of_ext{W w':World}{ι':Inj}{h':Hp}{E':Nat->Prop}(x:Ext noInj (enumH 0 []) (fun _=>False) W ι' h' E' w'):∃q os',w'=grow (W.drewN q) os':=by
 have hno:∀b,¬Own noInj (enumH 0 []) b:=fun b ⟨id,o,base,hg,_⟩=>by simp[enumH,get]at hg
 refine⟨w'.drawn-W.drawn,w'.heap.extract W.heap.size w'.heap.size,?_⟩
 have hh:w'.heap=W.heap++w'.heap.extract W.heap.size w'.heap.size:=by
  apply Array.ext_getElem?
  intro i
  rw[Array.getElem?_append]
  split
  ·rename_i hi
   exact(x.old i hi (hno i)).1
  ·rename_i hi
   rw[Array.getElem?_extract]
   have hsz:=x.size
   split
   ·congr 1;omega
   ·rw[Array.getElem?_eq_none];omega
 have hd:=x.drawn
 have h1:=x.os;have h2:=x.tape;have h3:=x.output
 cases w'
 cases W
 simp only[grow,World.drewN]at*
 subst h1;subst h2;subst h3
 congr 1
 omega
section
variable {P:Program} {α:Type} [Inhabited α]
theorem cmpLays_of{g:Nat}{enc:α->List Value}{k:Nat}{cf:α->α->Int}{blk off size:Nat}{w:World}(hgl:∀(m:Nat) (os:Array Go.Obj) (dk:Array α),GlobOk (fun _=>False) (sortWorldK enc k w blk off m dk os))
  (h:∀x y:α,ACall P g [.agg ((enc x).map .v),.agg ((enc y).map .v)] [] fun r hs=>r=.v (.int .i64 (cf x y))/\hs=[]):CmpLays P g #[] enc k cf blk off size w:=by
 intro m os dk _ x y
 have hgW:=hgl m os dk
 generalize sortWorldK enc k w blk off m dk os=W at hgW⊢
 obtain⟨_,h2⟩:=(h x y).elim
 have one:∀z:α,Rel (fun _=>False) W noInj (.agg ((enc z).map .v)) (.agg (enc z).toArray):=fun z=>
  .agg _ _ (by simp) (fun i a b ha hb=>by
   have hb':(enc z)[i]? =some b:=by simpa using hb
   rw[List.getElem?_map,hb']at ha
   cases ha
   exact .v _)
 have hv:RL (fun _=>False) W noInj [.agg ((enc x).map .v),.agg ((enc y).map .v)] #[.agg (enc x).toArray,.agg (enc y).toArray]:=RL.cons (one x) (RL.cons (one y) rl_nil)
 rw[Array.append_empty]
 refine(h2 noInj _ W _ (rep_none W hgW) hv).mono ?_
 rintro e w' ⟨v,rv,hs',ι',E',rfl,⟨rfl,rfl⟩,_,hr,x⟩
 cases hr
 exact⟨rfl,grow_of_ext x⟩
variable {E:Nat->Prop} {w:World} {ι:Inj} {n:Nat} {h:Hp}
theorem GlobOk.none{E:Nat->Prop}{w:World}(h:GlobOk E w):GlobOk (fun _=>False) w:=fun g cs hg=>by
 obtain⟨_,h2,h3⟩:=h g cs hg
 exact⟨fun f=>f,h2,h3⟩
theorem glob_grow{E:Nat->Prop}{w:World}(h:GlobOk E w)(m:Nat)(os:Array Go.Obj):GlobOk E (grow (Sort.ahead w m) os):=fun g cs hg=>by
 obtain⟨h1,h2,h3⟩:=h g cs hg
 refine⟨h1,?_,fun j y hy=>?_⟩
 ·rw[size_grow];exact Nat.lt_of_lt_of_le h2 (Nat.le_add_right _ _)
 ·rw[cell_of_heap (a:=⟨g,j,Option.none⟩) (heap_grow_old (Sort.ahead w m) os h2)];exact h3 j y hy
theorem rep_grow(r:Rep ι E w n h)(m:Nat)(os:Array Go.Obj):Rep ι E (grow (Sort.ahead w m) os) n h/\Ext ι h E w ι h E (grow (Sort.ahead w m) os):=by
 have hh:∀b,b<w.heap.size->(grow (Sort.ahead w m) os).heap[b]? =w.heap[b]? :=fun b hb=>heap_grow_old (Sort.ahead w m) os hb
 have hsz:w.heap.size<=(grow (Sort.ahead w m) os).heap.size:=by rw[size_grow];exact Nat.le_add_right _ _
 have hc:∀a:Addr,a.block<w.heap.size->(grow (Sort.ahead w m) os).cell? a=w.cell? a:=fun a ha=>cell_of_heap (hh _ ha)
 have hf:∀a:Addr,a.block<w.heap.size->(grow (Sort.ahead w m) os).frozen? a=w.frozen? a:=fun a ha=>by simp only[World.frozen?,hh _ ha]
 have hk:Keeps E w E (grow (Sort.ahead w m) os):=⟨hsz,fun b hb hE=>⟨hh b hb,hE⟩,fun a ha=>by rw[hc a (lt_of_cell ha)];exact ha,fun a ha=>hf a (lt_of_cell ha)⟩
 exact⟨⟨r.fresh,fun id o hg=>(r.obj id o hg).keep hk (fun _ _ h=>h) (fun b base hb=>r.own_E ⟨id,o,base,hg,hb⟩) (fun b base hb=>hh b (own_ne r hg hb)),r.sep,fun b hb=>Nat.lt_of_lt_of_le (r.bound b hb) hsz,r.glob.keep hk⟩,
  ⟨rfl,rfl,rfl,hsz,fun _ _ h=>h,fun b hb _=>⟨hh b hb,Iff.rfl⟩,fun _ _ h=>h,fun a ha=>by rw[hc a (lt_of_cell ha)];exact ha,fun a ha=>hf a ha,by show w.drawn<=w.drawn+m;omega⟩⟩
theorem cell?_putCells(d:Array Value)(w:World)(b off:Nat)(a:Addr)(h:(w.cell? a).isSome=true):((putRow id w b off d).cell? a).isSome=true:=by
 by_cases hb:a.block=b
 ·subst hb
  unfold putRow mapBlock
  simp only[World.cell?,Array.getElem?_modify,if_true]at h⊢
  cases hw:w.heap[a.block]? with
  |none=>simp[hw]at h
  |some o=>
   cases o with
   |cells c e fr=>
    simp only[hw,Option.map_some,onCells]at h⊢
    split at h
    ·simp at h
    ·rename_i hs
     simp only[hs]
     simp only[Bool.false_eq_true,if_false]at h⊢
     rw[Option.isSome_iff_exists]at h⊢
     obtain⟨v,hv⟩:=h
     have hlt:=(Array.getElem?_eq_some_iff.1 hv).1
     exact⟨_,Array.getElem?_eq_getElem (by simpa[putCells]using hlt)⟩
   |_=>simp[hw]at h
 ·rw[show(putRow id w b off d).cell? a=w.cell? a from cell?_putRow_other id w b off d a (Or.inl hb)];exact h
theorem frozen_putRow(d:Array Value)(w:World)(b off:Nat)(a:Addr):(putRow id w b off d).frozen? a=w.frozen? a:=by
 unfold putRow mapBlock World.frozen?
 simp only[Array.getElem?_modify]
 by_cases hb:b=a.block
 ·subst hb
  simp only[if_true]
  cases w.heap[a.block]? with
  |none=>rfl
  |some o=>cases o<;>rfl
 ·simp[hb]
theorem writes_putRow(d:Array Value)(w:World)(b off:Nat):Writes w b (putRow id w b off d):=
 ⟨rfl,rfl,rfl,by simp,fun k hk=>by simp[putRow,mapBlock,Array.getElem?_modify,Ne.symm hk],fun a ha=>cell?_putCells d w b off a ha,fun a=>frozen_putRow d w b off a,rfl⟩
theorem sort_of{f g k:Nat}{enc:α->List Value}{encA:α->AV}{cf:α->α->Int}(hok:okFn P f=true)(hk:∀x,(enc x).length=k)(henc:∀x,(encA x).cells=(enc x).map .v)
  (hsort:∀(blk off cap:Nat) (d:Array α) (w:World),HoldsK enc k w blk off d->blk<w.heap.size->d.size<4611686018427387904->(∀(m:Nat) (os:Array Go.Obj) (dk:Array α),GlobOk (fun _=>False) (sortWorldK enc k w blk off m dk os))->
   Calls P f #[.slice (some ⟨blk,off,none⟩) d.size cap,.func (.func g) #[] #[]] w fun e w'=>e=.returned (.tuple #[])/\∃d' n os,PermIn 0 d.size d d'/\SortedIn (ltOf cf) 0 d.size d'/\w'=sortWorldK enc k w blk off n d' os)
  (hnone:∀(p:Option Addr) (cap:Nat) (fv:Value) (w:World),Calls P f #[.slice p 0 cap,fv] w fun e w'=>e=.returned (.tuple #[])/\w'=w)
  {d:List α}{len:Nat}(hlen:len=d.length)(hd:d.length<4611686018427387904){K:KT}
  (hK:∀d':List α,d'.Perm d->d'.Pairwise (fun x y=>ltOf cf y x=false)->K (.tup []) [.arr k (d'.map encA)]):
  ACall P f [.os 0 k 0 len,.fn (.func g) [] []] [.arr k (d.map encA)] K:=by
 refine ACall.intro hok fun ι E w vals r hv=>?_
 obtain⟨v0,vs,rfl,hv0,hv⟩:=hv.head
 obtain⟨v1,vs,e1,hv1,hv2⟩:=hv.head
 cases e1
 have hvs:vs=[]:=by have:=hv2.nil;simpa using this
 subst hvs
 have hfn:v1=.func (.func g) #[] #[]:=by
  cases hv1 with
  |fn _ _ _ F C hF hC _ _=>
   simp only[List.length_nil]at hF hC
   rw[Array.eq_empty_of_size_eq_zero hF.symm,Array.eq_empty_of_size_eq_zero hC.symm]
 subst hfn
 have hg:get (enumH 0 [.arr k (d.map encA)]) 0=some (.arr k (d.map encA)):=rfl
 rcases Nat.eq_zero_or_pos d.length with h0|h0
 ·have hd0:d=[]:=List.eq_nil_of_length_eq_zero h0
  subst hd0
  have hz:∃p cap,v0=.slice p 0 cap:=by
   subst hlen
   cases hv0 with
   |osz _ _ _ a=>exact⟨a,0,rfl⟩
   |os _ _ _ _ b base cap hι hc h=>exact⟨_,cap,rfl⟩
  obtain⟨p,cap,rfl⟩:=hz
  refine(hnone p cap _ w).mono ?_
  rintro e w' ⟨rfl,rfl⟩
  exact⟨_,.tup [],[.arr k []],ι,E,rfl,hK [] (List.Perm.refl _) List.Pairwise.nil,r,.tup [] #[] rfl (fun i x y hx _=>by simp at hx),Ext.refl⟩
 ·have hpos:0<len:=by omega
  cases hv0 with
  |osz _ _ _ a=>omega
  |os _ _ _ _ b base cap hι hc hcell=>
   have hsz:=sz_of r hg
   rcases r.obj 0 _ hg with⟨h1,_⟩|⟨b',base',h1,h2,h3,h4,h5⟩
   ·rw[hι]at h1;cases h1
   ·rw[hι]at h1;cases h1
    have hbang:∀{l:List α} {i:Nat} (hi:i<l.length),l.toArray[i]! =l[i]:=fun {l i} hi=>by simp[hi]
    have hH:HoldsK enc k w b base d.toArray:=by
     intro t ht
     have ht':t<d.toArray.size*k:=by simpa using ht
     have kp:0<k:=by
      rcases Nat.eq_zero_or_pos k with h0|h0
      ·subst h0;simp at ht'
      ·exact h0
     have hi:t/k<d.length:=by
      rw[Nat.div_lt_iff_lt_mul kp];simpa using ht'
     have hc:=Nat.mod_lt t kp
     rw[get_flatK _ _ _ _ ht',hbang hi]
     have hxi:(d.map encA)[t/k]? =some (encA d[t/k]):=by simp[hi]
     have hcl:(enc d[t/k])[t%k]? =some ((enc d[t/k])[t%k]'(by rw[hk];exact hc)):=List.getElem?_eq_getElem _
     have hcc:(encA d[t/k]).cells[t%k]? =some (.v ((enc d[t/k])[t%k]'(by rw[hk];exact hc))):=by rw[henc,List.getElem?_map,hcl];rfl
     obtain⟨u,e1,e2,e3⟩:=h5 _ _ _ _ hxi hcc
     have hu:u=(enc d[t/k])[t%k]'(by rw[hk];exact hc):=by cases e3;rfl
     have hoff:base+t/k*k+t%k=base+t:=by
      have:=Nat.div_add_mod t k
      rw[Nat.mul_comm]at this
      omega
     rw[hoff]at e1 e2
     refine⟨?_,e2⟩
     rw[e1,hu,getElem!_pos (enc d[t/k]) (t%k) (by rw[hk];exact hc)]
     rfl
    have hgl:∀(m:Nat) (os:Array Go.Obj) (dk:Array α),GlobOk (fun _=>False) (sortWorldK enc k w b base m dk os):=fun m os dk=>by
     have g1:=r.glob.keep ((writes_putRow (Go.Sort.flatK enc k dk) w b base).keeps h2)
     exact(glob_grow g1 m os).none
    have h:=hsort b base cap d.toArray w hH h3 (by simpa using hd) hgl
    rw[show base+0*k=base by omega,hlen,show d.length=d.toArray.size by simp]
    refine h.mono ?_
    rintro e w' ⟨rfl,d',m,os,hp,hs,rfl⟩
    obtain⟨p1,p2,p3⟩:=hp
    have hd':d'.size=d.length:=by simpa using p1
    have hH':=holdsK_sortWorldK_c enc k w b base d.toArray d' m os hH h3 p1
    have hperm:d'.toList.Perm d:=by
     have e1:(d'.extract 0 d.toArray.size)=d':=by rw[<-p1];simp
     rw[e1]at p3
     simpa using p3
    refine⟨_,.tup [],[.arr k (d'.toList.map encA)],ι,E,rfl,hK _ hperm ?_,?_⟩
    ·rw[List.pairwise_iff_getElem]
     intro i j hi hj hij
     have:=hs i j (Nat.zero_le _) hij (by simp at hj;simpa[<-hd']using hj)
     simp at hi hj
     rw[getElem!_pos d' i hi,getElem!_pos d' j hj]at this
     simpa using this
    · -- the world: drawn on, the row put, blocks laid behind
      have e0:sortWorldK enc k w b base m d' os=grow (Sort.ahead (putRow id w b base (Go.Sort.flatK enc k d')) m) os:=rfl
      have ho:ORel E (putRow id w b base (Go.Sort.flatK enc k d')) ι 0 (.arr k (d'.toList.map encA)):=by
       refine .inr ⟨b,base,hι,h2,by simpa using h3,fun i x hx=>?_,fun i x j c hx hc=>?_⟩
       ·rw[List.getElem?_map,Option.map_eq_some_iff]at hx
        obtain⟨y,_,rfl⟩:=hx
        rw[henc,List.length_map,hk]
       ·rw[List.getElem?_map,Option.map_eq_some_iff]at hx
        obtain⟨y,hy,rfl⟩:=hx
        rw[henc,List.getElem?_map,Option.map_eq_some_iff]at hc
        obtain⟨u,hu,rfl⟩:=hc
        have hi:i<d'.size:=by have:=(List.getElem?_eq_some_iff.1 hy).1;simpa using this
        have hj:j<k:=by have:=(List.getElem?_eq_some_iff.1 hu).1;rwa[hk]at this
        have hHp:=holdsK_putRowK enc k w b base d.toArray d' hH p1
        have:=HoldsK.cell hHp hi hj
        have ey:d'[i]! =y:=by
         rw[getElem!_pos d' i hi]
         have:d'.toList[i]? =some d'[i]:=by simp[hi]
         rw[this]at hy;exact Option.some.inj hy
        rw[ey,getElem!_pos (enc y) j (by rw[hk];exact hj)]at this
        have eu:(enc y)[j]'(by rw[hk];exact hj)=u:=by
         rw[List.getElem?_eq_getElem (by rw[hk];exact hj)]at hu;exact Option.some.inj hu
        rw[eu]at this
        exact⟨u,this.1,this.2,.v _⟩
      have hput:=step_put (h0:=[]) r (fun id o hg=>by simp[get]at hg) hg hι rfl (writes_putRow (Go.Sort.flatK enc k d') w b base) (fun _ _ h=>h) hι (fun _ _=>rfl) (Nat.le_refl _) r.fresh ho rfl
      have hgr:=rep_grow hput.1 m os
      rw[e0]
      exact⟨hgr.1,.tup [] #[] rfl (fun i x y hx _=>by simp at hx),hput.2.trans hgr.2⟩
end
end Go.Vm
namespace Go.Proofs.YtahhamfngafmcaaGreatDoor
open Go Go.Vm Go.Sort Go.Shelf Go.Proofs
instance:Inhabited Rg:=⟨⟨0,0,by decide,by decide,by decide,by decide⟩⟩
def encV(r:Rg):List Value:=[.int .u32 r.lo,.int .u32 r.hi]
def cmpR(r s:Rg):Int:=cmpI r.lo s.lo
theorem ltR(r s:Rg):ltOf cmpR r s=decide (r.lo<s.lo):=by
 unfold ltOf cmpR cmpI
 by_cases h1:r.lo<s.lo
 ·simp[h1]
 ·by_cases h2:s.lo<r.lo<;>simp[h1,h2]
theorem swoR:SWO (ltOf cmpR) where
 irrefl x:=by rw[ltR];simp
 trans x y z h1 h2:=by rw[ltR]at*;simp at*;omega
 ntrans x y z h1 h2:=by rw[ltR]at*;simp at*;omega
theorem sorts:Sorts:=by
 intro d n hn hd K hK
 have eg:∀args w,(callFunc 186 args).run Tryz.prog w=.ok (.enter 186 args) w:=enters_of Tryz.func186 (by kernel_rfl) rfl
 refine sort_of (k:=2) (enc:=encV) (encA:=encR) (cf:=cmpR) (by kernel_rfl) (fun _=>rfl) (fun _=>rfl) (fun blk off cap d w hH hb hs hgl=>?_) (fun p cap fv w=>?_) hn (by omega) (fun d' hp hs=>hK d' hp (hs.imp fun h=>?_))
 ·exact AnyQ.slices_SortFunc Tryz.sortR 2 Tryz.isAgg54 Tryz.sizeOf54 encV (fun _=>rfl) (fun x v hv=>by simp[encV]at hv;rcases hv with rfl|rfl<;>rfl) cmpR swoR 186 #[] blk off cap d w eg
   (cmpLays_of hgl fun x y=>c47 x y ⟨rfl,rfl⟩) hH hb hs
 ·exact AnyF.slices_SortFunc_none Tryz.sortR p cap fv w
 ·rw[ltR]at h;simp at h;omega
open Go Go.Vm
theorem k39(l:List Rg)(hl:l.length<100000){K:KT}(hK:∀c,Canon c->(∀v,has c v=has l v)->c.length<=l.length->K (encRs c) []):ACall Tryz.prog 142 [encRs l] [] K:=c39 sorts l hl hK
theorem c18(a b:List Rg)(ha:a.length<900)(hb:b.length<900){K:KT}(hK:∀c,Canon c->(∀v,has c v=(has a v||has b v))->c.length<=a.length+b.length->K (encRs c) []):ACall Tryz.prog 85 [encRs a,encRs b] [] K:=by
 refine of18 rfl rfl ?_
 iterate 4 (all_goals((conv=>whnf);first|refine zG ?_|apply zA|(apply zI;intro h)|exact zT|skip))
 refine c40 [a,b] (by simp) (fun l hl=>by
  simp only[List.mem_cons,List.not_mem_nil,or_false]at hl
  rcases hl with rfl|rfl<;>omega) ?_
 (conv=>whnf)
 refine k39 [a,b].flatten (by simp;omega) fun c h1 h2 h3=>?_
 (conv=>whnf)
 refine hK c h1 (fun v=>?_) (by simpa using h3)
 rw[h2]
 simp[has]
structure IInv (A B:List Rg) (i j:Nat) (out:List Rg):Prop where
 canon:Canon out
 sep:∀s,s∈out->∀v,has (A.drop i) v=true->has (B.drop j) v=true->s.hi+1<v
 mem:∀v,(has A v&&has B v)=(has out v||(has (A.drop i) v&&has (B.drop j) v))
 len:out.length<=i+j
theorem has_cons(r:Rg)(l:List Rg)(v:Int):has (r::l) v=((decide (r.lo<=v)&&decide (v<=r.hi))||has l v):=by simp[has]
theorem drop_of{l:List Rg}{i:Nat}{r:Rg}(h:l[i]? =some r):l.drop i=r::l.drop (i+1):=by
 obtain⟨h1,h2⟩:=List.getElem?_eq_some_iff.1 h
 rw[List.drop_eq_getElem_cons h1,h2]
theorem canon_rest{l:List Rg}(h:Canon l){i:Nat}{r:Rg}(hr:l[i]? =some r){v:Int}(hv:has (l.drop (i+1)) v=true):r.hi+1<v:=by
 obtain⟨s,hs,h1,h2⟩:=has_iff.1 hv
 obtain⟨j,hj⟩:=List.getElem?_of_mem hs
 rw[List.getElem?_drop]at hj
 have:=List.pairwise_iff_getElem.1 h.2 i (i+1+j) (List.getElem?_eq_some_iff.1 hr).1 (List.getElem?_eq_some_iff.1 hj).1 (by omega)
 rw[(List.getElem?_eq_some_iff.1 hr).2,(List.getElem?_eq_some_iff.1 hj).2]at this
 omega
theorem canon_rest_f{l:List Rg}(h:Canon l){i:Nat}{r:Rg}(hr:l[i]? =some r){v:Int}(hv:v<=r.hi+1):has (l.drop (i+1)) v=false:=by
 cases hb:has (l.drop (i+1)) v with
 |false=>rfl
 |true=>have:=canon_rest h hr hb;omega
def cross(out:List Rg)(r s:Rg):List Rg:=if max r.lo s.lo<=min r.hi s.hi then out++[mkR (max r.lo s.lo) (min r.hi s.hi)]else out
theorem cross_has(out:List Rg)(r s:Rg)(v:Int):has (cross out r s) v=(has out v||((decide (r.lo<=v)&&decide (v<=r.hi))&&(decide (s.lo<=v)&&decide (v<=s.hi)))):=by
 have b1:=r.l0;have b2:=r.l1;have b3:=r.h0;have b4:=r.h1
 have d1:=s.l0;have d2:=s.l1;have d3:=s.h0;have d4:=s.h1
 unfold cross
 split
 ·rw[has_append,has_one,mkR_lo (by omega) (by omega) (by omega) (by omega),mkR_hi (by omega) (by omega) (by omega) (by omega)]
  congr 1
  rw[Bool.eq_iff_iff]
  simp only[Bool.and_eq_true,decide_eq_true_eq]
  omega
 ·rename_i h
  have:((decide (r.lo<=v)&&decide (v<=r.hi))&&(decide (s.lo<=v)&&decide (v<=s.hi)))=false:=by
   cases hb:((decide (r.lo<=v)&&decide (v<=r.hi))&&(decide (s.lo<=v)&&decide (v<=s.hi)))with
   |false=>rfl
   |true=>simp only[Bool.and_eq_true,decide_eq_true_eq]at hb;omega
  rw[this,Bool.or_false]
theorem cross_canon{A B:List Rg}{i j:Nat}{out:List Rg}{r s:Rg}(h:IInv A B i j out)(hr:A[i]? =some r)(hs:B[j]? =some s):Canon (cross out r s)/\(cross out r s).length<=i+j+1:=by
 have b1:=r.l0;have b2:=r.l1;have b3:=r.h0;have b4:=r.h1
 have d1:=s.l0;have d2:=s.l1;have d3:=s.h0;have d4:=s.h1
 have hl:=h.len
 unfold cross
 split
 ·rename_i hle
  have e1:=mkR_lo (show 0<=max r.lo s.lo by omega) (by omega) (show 0<=min r.hi s.hi by omega) (by omega)
  have e2:=mkR_hi (show 0<=max r.lo s.lo by omega) (by omega) (show 0<=min r.hi s.hi by omega) (by omega)
  refine⟨canon_append_one h.canon (by rw[e1,e2];exact hle) (fun t ht=>?_),by simp;omega⟩
  rw[e1]
  refine h.sep t ht _ ?_ ?_
  ·rw[drop_of hr,has_cons,Bool.or_eq_true,Bool.and_eq_true,decide_eq_true_eq,decide_eq_true_eq];left;omega
  ·rw[drop_of hs,has_cons,Bool.or_eq_true,Bool.and_eq_true,decide_eq_true_eq,decide_eq_true_eq];left;omega
 ·exact⟨h.canon,by omega⟩
theorem cross_ends{out:List Rg}{r s t:Rg}(ht:t∈cross out r s):t∈out\/(t.hi<=r.hi/\t.hi<=s.hi):=by
 have b1:=r.l0;have b2:=r.l1;have b3:=r.h0;have b4:=r.h1
 have d1:=s.l0;have d2:=s.l1;have d3:=s.h0;have d4:=s.h1
 unfold cross at ht
 split at ht
 ·rcases List.mem_append.1 ht with ht|ht
  ·exact .inl ht
  ·simp at ht;subst ht
   right
   rw[mkR_hi (by omega) (by omega) (by omega) (by omega)]
   omega
 ·exact .inl ht
theorem iinv_left{A B:List Rg}{i j:Nat}{out:List Rg}{r s:Rg}(hA:Canon A)(hB:Canon B)(h:IInv A B i j out)(hr:A[i]? =some r)(hs:B[j]? =some s)(hlt:r.hi<s.hi):IInv A B (i+1) j (cross out r s):=by
 obtain⟨c1,c2⟩:=cross_canon h hr hs
 refine⟨c1,fun t ht v h1 h2=>?_,fun v=>?_,by omega⟩
 ·rcases cross_ends ht with ht|ht
  ·exact h.sep t ht v (by rw[drop_of hr,has_cons,h1,Bool.or_true]) h2
  ·have:=canon_rest hA hr h1;omega
 ·rw[h.mem,cross_has,drop_of hr,has_cons,drop_of hs,has_cons]
  rcases Int.lt_or_le (r.hi) v with h1|h1
  ·rw[show decide (v<=r.hi)=false from decide_eq_false (by omega)];simp
  ·rw[canon_rest_f hA hr (by omega),canon_rest_f hB hs (by omega)]
   cases has out v<;>cases (decide (r.lo<=v)&&decide (v<=r.hi))<;>cases (decide (s.lo<=v)&&decide (v<=s.hi))<;>rfl
theorem iinv_right{A B:List Rg}{i j:Nat}{out:List Rg}{r s:Rg}(hA:Canon A)(hB:Canon B)(h:IInv A B i j out)(hr:A[i]? =some r)(hs:B[j]? =some s)(hge:s.hi<=r.hi):IInv A B i (j+1) (cross out r s):=by
 obtain⟨c1,c2⟩:=cross_canon h hr hs
 refine⟨c1,fun t ht v h1 h2=>?_,fun v=>?_,by omega⟩
 ·rcases cross_ends ht with ht|ht
  ·exact h.sep t ht v h1 (by rw[drop_of hs,has_cons,h2,Bool.or_true])
  ·have:=canon_rest hB hs h2;omega
 ·rw[h.mem,cross_has,drop_of hr,has_cons,drop_of hs,has_cons]
  rcases Int.lt_or_le (s.hi) v with h1|h1
  ·rw[show decide (v<=s.hi)=false from decide_eq_false (by omega)];simp
  ·rw[canon_rest_f hA hr (by omega),canon_rest_f hB hs (by omega)]
   cases has out v<;>cases (decide (r.lo<=v)&&decide (v<=r.hi))<;>cases (decide (s.lo<=v)&&decide (v<=s.hi))<;>rfl
theorem c19(a b:List Rg)(ha:a.length<10000)(hb:b.length<10000){K:KT}
  (hK:∀out,Canon out->(∀v,has out v=(has a v&&has b v))->out.length<=a.length+b.length->K (encRs out) []):ACall Tryz.prog 183 [encRs a,encRs b] [] K:=by
 refine of19 rfl rfl ?_
 (conv=>whnf)
 refine k39 a (by omega) fun A g1 g2 g3=>?_
 (conv=>whnf)
 refine k39 b (by omega) fun B f1 f2 f3=>?_
 (conv=>whnf)
 refine Lp.intro (Nat×Nat×List Rg) (fun g=>⟨1,[(0,.arr 2 (g.2.2.map encR))],[(0,encRs A),(1,encRs B),(5,.os 0 2 0 g.2.2.length),(6,.v (.int .i64 g.1)),(7,.v (.int .i64 g.2.1))]⟩)
  (fun g=>g.1<=A.length/\g.2.1<=B.length/\IInv A B g.1 g.2.1 g.2.2) (fun g=>(A.length-g.1)+(B.length-g.2.1)) (0,0,[]) ?_ ?_ ?_
 ·exact⟨Nat.zero_le _,Nat.zero_le _,canon_nil,fun s hs=>by simp at hs,fun v=>by simp[has_nil],Nat.le_refl _⟩
 ·exact⟨[(0,0)],rfl,⟨rfl,rfl,rfl,rfl,rfl,trivial⟩,⟨rfl,trivial⟩⟩
 ·rintro⟨i,j,out⟩ ⟨hi,hj,hinv⟩
  simp only at hi hj hinv⊢
  have hlen:=hinv.len
  have fin:(∀v,(has (A.drop i) v&&has (B.drop j) v)=false)->K (encRs out) []:=fun he=>
   hK out hinv.canon (fun v=>by rw[<-g2,<-f2,hinv.mem,he,Bool.or_false]) (by omega)
  rcases Nat.lt_or_ge i A.length with hil|hil
  ·rcases Nat.lt_or_ge j B.length with hjl|hjl
   ·obtain⟨r,hr⟩:=gex hil
    obtain⟨s,hs⟩:=gex hjl
    have b1:=r.l0;have b2:=r.l1;have b3:=r.h0;have b4:=r.h1
    have d1:=s.l0;have d2:=s.l1;have d3:=s.h0;have d4:=s.h1
    have e0:max r.lo s.lo<=min r.hi s.hi->cross out r s=out++[mkR (max r.lo s.lo) (min r.hi s.hi)]:=fun h=>by unfold cross;rw[if_pos h]
    have e1:¬max r.lo s.lo<=min r.hi s.hi->cross out r s=out:=fun h=>by unfold cross;rw[if_neg h]
    have e2:=enc_mkR (show 0<=max r.lo s.lo by omega) (by omega) (show 0<=min r.hi s.hi by omega) (by omega)
    iterate 90 (all_goals((conv=>whnf);first|(with_reducible first|refine in_map hil ?_|refine in_map hjl ?_|refine ix_map hr ?_|refine ix_map hs ?_)|refine zG ?_|apply zA|(apply zI;intro h)|exact zT|skip))
    ·have h:=iinv_left g1 f1 hinv hr hs (by assumption)
     rw[e0 (by assumption)]at h
     refine⟨(i+1,j,out++[mkR (max r.lo s.lo) (min r.hi s.hi)]),⟨by simp only;omega,hj,h⟩,by simp only;omega,?_⟩
     simp only[List.map_append,List.map_cons,List.map_nil,List.length_append,List.length_cons,List.length_nil]
     rw[e2]
     exact⟨[(0,2)],rfl,⟨rfl,rfl,rfl,rfl,rfl,trivial⟩,⟨rfl,trivial⟩⟩
    ·have h:=iinv_right g1 f1 hinv hr hs (by omega)
     rw[e0 (by assumption)]at h
     refine⟨(i,j+1,out++[mkR (max r.lo s.lo) (min r.hi s.hi)]),⟨hi,by simp only;omega,h⟩,by simp only;omega,?_⟩
     simp only[List.map_append,List.map_cons,List.map_nil,List.length_append,List.length_cons,List.length_nil]
     rw[e2]
     exact⟨[(0,2)],rfl,⟨rfl,rfl,rfl,rfl,rfl,trivial⟩,⟨rfl,trivial⟩⟩
    ·have h:=iinv_left g1 f1 hinv hr hs (by assumption)
     rw[e1 (by assumption)]at h
     exact⟨(i+1,j,out),⟨by simp only;omega,hj,h⟩,by simp only;omega,⟨[(0,0)],rfl,⟨rfl,rfl,rfl,rfl,rfl,trivial⟩,⟨rfl,trivial⟩⟩⟩
    ·have h:=iinv_right g1 f1 hinv hr hs (by omega)
     rw[e1 (by assumption)]at h
     exact⟨(i,j+1,out),⟨hi,by simp only;omega,h⟩,by simp only;omega,⟨[(0,0)],rfl,⟨rfl,rfl,rfl,rfl,rfl,trivial⟩,⟨rfl,trivial⟩⟩⟩
   ·iterate 10 (all_goals((conv=>whnf);first|(with_reducible first|refine in_map hil ?_|refine in_map hjl ?_)|refine zG ?_|apply zA|(apply zI;intro h)|exact zT|skip))
    exact fin fun v=>by rw[List.drop_of_length_le hjl,has_nil,Bool.and_false]
  ·iterate 10 (all_goals((conv=>whnf);first|(with_reducible refine in_map hil ?_)|refine zG ?_|apply zA|(apply zI;intro h)|exact zT|skip))
   exact fin fun v=>by rw[List.drop_of_length_le hil,has_nil,Bool.false_and]
theorem fine_nil(l:List Df):Fine l [] []:=⟨List.Pairwise.nil,List.Pairwise.nil,Firsts.nil,Firsts.nil,fun n h=>(by cases h),fun n h=>(by cases h),fun n h=>(by cases h)⟩
theorem cwStart(t:Tp)(ht:t.edges.length<1000)(l:List Df)(hl:l.length<=999)(hit:∀d,d∈l->d.items.length<=999)(nm:ByteArray){K:KT}
  (hK:K (.v (.int .i64 (fol (visG t) l (l.length+1) [] nm [] []).1)) [adO 2,boxT t,outO 4 (fol (visG t) l (l.length+1) [] nm [] []).2.2.length,.box [],arrO (fol (visG t) l (l.length+1) [] nm [] []).2.2]):
  ACall Tryz.prog 86 [.lst (l.map encDf),.v (.string nm),.fn (.func 87) [] [.op 0 0,.op 1 0]] [adO 2,boxT t,outO 3 0,.arr 2 []] K:=by
 refine ofwStart rfl rfl ?_
 have hc:∀{K:KT},K (.v (.int .i64 (fol (visG t) l (l.length+1) [] nm [] []).1)) [foO l,.map (nameM l []),.map (nameM l (fol (visG t) l (l.length+1) [] nm [] []).2.1),adO 5,boxT t,outO 7 (fol (visG t) l (l.length+1) [] nm [] []).2.2.length,.box [],arrO (fol (visG t) l (l.length+1) [] nm [] []).2.2]->
   ACall Tryz.prog 144 [.op 0 0,.v (.string nm)] [foO l,.map (fun _=>none),.map (fun _=>none),adO 5,boxT t,outO 6 0,.arr 2 []] K:=fun {K} h=>by
  rw[nameM_nil l]
  exact cwFol t ht l hl hit (l.length+1) [] nm [] [] (fine_nil l) (by simp) (by simp) h
 (repeat' ((conv=>whnf);first|(with_reducible refine hc ?_)|refine zG ?_|apply zA|(apply zI;intro h)|exact zT));(all_goals conv=>whnf)
 exact hK
def grpE(t:Tp)(l:List Df)(nm:ByteArray):Int×List Rg:=
 if sEq nm ⟨#[]⟩=true then(0,t.edges.map fun e=>e.pf.rg)else((fol (visG t) l (l.length+1) [] nm [] []).1,(fol (visG t) l (l.length+1) [] nm [] []).2.2)
theorem cwUn0(a:List Rg)(ha:a.length<900){K:KT}(hK:∀c,Canon c->(∀v,has c v=has a v)->c.length<=a.length->K (encRs c) []):ACall Tryz.prog 85 [encRs a,.lst []] [] K:=
 c18 a [] ha (by simp) fun c h1 h2 h3=>hK c h1 (fun v=>by rw[h2];simp[has_nil]) (by simpa using h3)
theorem cwGrp(t:Tp)(ht:t.edges.length<900)(i:Nt)(hl:i.grps.length<=999)(hit:∀d,d∈i.grps->d.items.length<=999)(nm:ByteArray)(hb:(grpE t i.grps nm).1=0->(grpE t i.grps nm).2.length<900){K:KT}
  (hK1:(grpE t i.grps nm).1≠0->K (.tup [.lst [],.v (.int .i64 (grpE t i.grps nm).1)]) [])
  (hK2:(grpE t i.grps nm).1=0->∀c,Canon c->(∀v,has c v=has (grpE t i.grps nm).2 v)->c.length<=(grpE t i.grps nm).2.length->K (.tup [encRs c,.v (.int .i64 0)]) []):
  ACall Tryz.prog 46 [encT t,encNt i,.v (.string nm)] [] K:=by
 refine ACall.weak (ofwGrp rfl rfl ?_)
 unfold grpE at hb hK1 hK2
 by_cases hnm:sEq nm ⟨#[]⟩=true
 ·simp only[if_pos hnm]at hb hK1 hK2
  have hnm2:(nm.toList==(⟨#[]⟩:ByteArray).toList)=true:=hnm
  (repeat' ((conv=>whnf);first|refine zG ?_|apply zA|(apply zI;intro h)|exact zT));(all_goals conv=>whnf)
  all_goals first
   |skip
  refine Lp.intro (Nat×List Rg) (fun g=>⟨5,[(4,adO 2),(3,arrO g.2),(2,outO 3 g.2.length)],[(8,.op 2 0),(9,.op 4 0),(17,.lst (t.edges.map encE)),(18,.v (.int .i64 (t.edges.map encE).length)),(19,.v (.int .i64 g.1))]⟩)
   (fun g=>g.1<=t.edges.length/\g.2=(t.edges.take g.1).map fun e=>e.pf.rg) (fun g=>t.edges.length-g.1) (0,[]) ⟨Nat.zero_le _,rfl⟩ ?_ ?_
  ·(exact leA)
  rintro⟨k,out⟩ ⟨hk,ho⟩
  simp only at hk ho⊢
  have hol:out.length=k:=by rw[ho,List.length_map,List.length_take];omega
  rcases Nat.lt_or_ge k t.edges.length with hkl|hkl
  ·obtain⟨e,he⟩:=gex hkl
   (repeat' ((conv=>whnf);first|(with_reducible first|refine in_map hkl ?_|refine ix_map he ?_|refine cwAdd e.pf out (by omega) ?_)|refine zG ?_|apply zA|(apply zI;intro h)|exact zT));(all_goals conv=>whnf)
   refine⟨(k+1,out++[e.pf.rg]),⟨hkl,?_⟩,by simp only;omega,?_⟩
   ·simp only
    rw[ho,List.take_add_one,he,List.map_append]
    rfl
   ·simp only[Int.natCast_add,Int.natCast_one]
    (exact leA)
  ·have hke:k=t.edges.length:=by omega
   rw[hke,List.take_length]at ho
   rw[<-ho]at hK2
   (repeat' ((conv=>whnf);first|(with_reducible first|refine sl_full (List.length_map ..) ?_|refine cwUn0 out (by omega) fun c hc1 hc2 hc3=>?_)|refine zG ?_|apply zA|(apply zI;intro h)|exact zT));(all_goals conv=>whnf)
   exact⟨_,Weak.refl,hK2 trivial c hc1 hc2 hc3⟩
 ·simp only[if_neg hnm]at hb hK1 hK2
  have hnm2:(nm.toList==(⟨#[]⟩:ByteArray).toList)=false:=by simpa[sEq]using hnm
  have hc:=fun {K} h=>@cwStart t (by omega) i.grps hl hit nm K h
  generalize fol (visG t) i.grps (i.grps.length+1) [] nm [] []=q at*
  obtain⟨qe,qd,qs⟩:=q
  simp only at hb hK1 hK2 hc
  (repeat' ((conv=>whnf);first|(with_reducible first|refine hc ?_|refine sl_full (List.length_map ..) ?_|refine cwUn0 qs (hb (by assumption)) fun c hc1 hc2 hc3=>?_)|refine zG ?_|apply zA|(apply zI;intro h)|exact zT));(all_goals conv=>whnf)
  all_goals first
   |(exfalso;simp_all;done)
   |exact⟨_,Weak.refl,hK2 (by assumption) c hc1 hc2 hc3⟩
   |exact⟨_,Weak.tup2 Weak.nils Weak.refl,hK1 (by assumption)⟩
   |trace_state
def wgtD(l:List Df)(d:List Nat):Nat:=(d.map fun n=>((l[n]?).map fun x=>x.items.length).getD 0).sum
theorem wgtD_snoc{l:List Df}{d:List Nat}{n:Nat}{x:Df}(h:l[n]? =some x):wgtD l (d++[n])=wgtD l d+x.items.length:=by
 rw[wgtD,List.map_append,List.sum_append,<-wgtD];simp[h]
theorem wgtD_range(l:List Df):wgtD l (List.range l.length)=itsN l:=by
 unfold wgtD itsN
 congr 1
 refine List.ext_getElem (by simp) fun i h1 h2=>?_
 have:i<l.length:=by simpa using h2
 simp[List.getElem?_eq_getElem this]
theorem sum_erase{l:List Nat}{f:Nat->Nat}{x:Nat}(h:x∈l):(l.map f).sum=f x+((l.erase x).map f).sum:=by
 induction l with
 |nil=>simp at h
 |cons y l ih=>
  by_cases hy:y=x
  ·subst hy;simp
  ·have hx:x∈l:=by rcases List.mem_cons.1 h with h|h;exact absurd h.symm hy;exact h
   have e:(y::l).erase x=y::l.erase x:=by rw[List.erase_cons_tail (by simpa using hy)]
   rw[e,List.map_cons,List.sum_cons,ih hx,List.map_cons,List.sum_cons];omega
theorem sum_nodup{f:Nat->Nat}:∀{d m:List Nat},d.Nodup->(∀x,x∈d->x∈m)->(d.map f).sum<=(m.map f).sum
 |[],m,_,_=>Nat.zero_le _
 |x::d,m,hn,hs=>by
  obtain⟨h1,h2⟩:=List.nodup_cons.1 hn
  rw[sum_erase (hs x (by simp)),List.map_cons,List.sum_cons]
  have:=sum_nodup (f:=f) (m:=m.erase x) h2 fun y hy=>(List.mem_erase_of_ne (fun e=>h1 (by rw[<-e];exact hy))).2 (hs y (List.mem_cons_of_mem _ hy))
  omega
theorem wgtD_le{l:List Df}{d:List Nat}(hn:d.Nodup)(hl:∀n,n∈d->n<l.length):wgtD l d<=itsN l:=by
 rw[<-wgtD_range]
 exact sum_nodup hn fun x hx=>List.mem_range.2 (hl x hx)
section
variable {S:Type} (v:It->S->Int×S) (sz:S->Nat) (c:Nat) (hv:∀x s,(v x s).1=0->sz (v x s).2<=sz s+c)
structure Fit (l:List Df) (p d:List Nat) (s:S) (d':List Nat) (s':S) (k:Nat):Prop where
 fine:Fine l p d'
 size:sz s'+c*wgtD l d<=sz s+c*wgtD l d'+c*k
include hv
theorem folI_fit{l:List Df}{p:List Nat}{rec:ByteArray->List Nat->S->Int×List Nat×S}(hrec:∀nm d s,Fine l p d->(rec nm d s).1=0->Fit sz c l p d s (rec nm d s).2.1 (rec nm d s).2.2 0):
  ∀(its:List It) (d:List Nat) (s:S),Fine l p d->(folI v rec its d s).1=0->Fit sz c l p d s (folI v rec its d s).2.1 (folI v rec its d s).2.2 its.length
 |[],d,s,hf,_=>⟨hf,by simp[folI]⟩
 |x::r,d,s,hf,h=>by
  rw[folI_cons]at h⊢
  have hq:(if x.kind=3 then rec x.name d s else((v x s).1,d,(v x s).2)).1=0->Fit sz c l p d s (if x.kind=3 then rec x.name d s else((v x s).1,d,(v x s).2)).2.1 (if x.kind=3 then rec x.name d s else((v x s).1,d,(v x s).2)).2.2 1:=by
   by_cases hk:x.kind=3
   ·rw[if_pos hk]
    intro h0
    have:=hrec x.name d s hf h0
    exact⟨this.fine,by have:=this.size;omega⟩
   ·rw[if_neg hk]
    intro h0
    exact⟨hf,by have:=hv x s h0;simp only;omega⟩
  generalize (if x.kind=3 then rec x.name d s else((v x s).1,d,(v x s).2))=q at*
  by_cases h0:q.1=0
  ·rw[if_pos h0]at h⊢
   have hq:=hq h0
   have h2:=folI_fit hrec r q.2.1 q.2.2 hq.fine h
   exact⟨h2.fine,by have:=hq.size;have:=h2.size;rw[List.length_cons,Nat.mul_succ];omega⟩
  ·rw[if_neg h0]at h;exact absurd h h0
theorem fol_fit(l:List Df):∀(k:Nat) (p:List Nat) (nm:ByteArray) (d:List Nat) (s:S),Fine l p d->(fol v l k p nm d s).1=0->
  Fit sz c l p d s (fol v l k p nm d s).2.1 (fol v l k p nm d s).2.2 0
 |0,p,nm,d,s,hf,h=>by simp[fol]at h
 |k+1,p,nm,d,s,hf,h=>by
  unfold fol at h⊢
  cases hn:findD l nm with
  |none=>simp[hn]at h
  |some n=>
   simp only[hn]at h⊢
   split at h
   ·simp at h
   rename_i hp
   rw[if_neg hp]
   split at h
   ·rename_i hd
    rw[if_pos hd]
    exact⟨hf,by simp⟩
   rename_i hd
   rw[if_neg hd]
   obtain⟨df,hdf,_⟩:=findD_some hn
   simp only[hdf,Option.map_some,Option.getD_some]at h⊢
   have hpush:=hf.push hn hp hd
   split at h
   ·rename_i h0
    rw[if_pos h0]
    have h1:=folI_fit v sz c hv (fun nm d s hf h=>fol_fit l k (p++[n]) nm d s hf h) df.items d s hpush h0
    refine⟨h1.fine.pop hn,?_⟩
    have:=h1.size
    simp only
    rw[wgtD_snoc hdf,Nat.mul_add]
    omega
   ·rename_i h0;exact absurd h h0
theorem fol_all(l:List Df)(nm:ByteArray)(s:S)(h:(fol v l (l.length+1) [] nm [] s).1=0):sz (fol v l (l.length+1) [] nm [] s).2.2<=sz s+c*itsN l:=by
 have h1:=fol_fit v sz c hv l (l.length+1) [] nm [] s (fine_nil l) h
 have h2:=wgtD_le h1.fine.dn h1.fine.dl
 have h3:=h1.size
 have h4:=Nat.mul_le_mul_left c h2
 have h5:wgtD l []=0:=rfl
 rw[h5]at h3
 omega
end
theorem grpE_len{t:Tp}{l:List Df}{nm:ByteArray}(h12:t.edges.length<=12)(h:(grpE t l nm).1=0):(grpE t l nm).2.length<=12+12*itsN l:=by
 unfold grpE at h⊢
 split
 ·simp only[List.length_map];omega
 ·rename_i hn
  rw[if_neg hn]at h
  have:=fol_all (visG t) List.length 12 (fun x s h0=>by
   unfold visG at h0⊢
   have hll:=ixs_len (fun e=>sEq e.zone x.name) t.edges t.edges.length
   split
   ·rw[List.length_append];simp
   ·split
    ·simp
    ·rw[List.length_append,List.length_map];omega) l nm [] h
  simp only[List.length_nil]at this⊢
  omega
noncomputable def grpP(t:Tp)(i:Nt)(nm:ByteArray):List Rg×Int:=if(grpE t i.grps nm).1=0 then(canO (has (grpE t i.grps nm).2),0)else([],(grpE t i.grps nm).1)
def svcGo:List It->List Bx->List Bx×Int
 |[],s=>(s,0)
 |x::r,s=>if(combP anB initS [hdrX x]).2≠0 then([],(combP anB initS [hdrX x]).2)else if(combP orB s (combP anB initS [hdrX x]).1).2≠0 then([],(combP orB s (combP anB initS [hdrX x]).1).2)else svcGo r (combP orB s (combP anB initS [hdrX x]).1).1
def svcF(l:List Df)(nm:ByteArray):Int×List It:=((fol visS l (l.length+1) [] nm [] []).1,(fol visS l (l.length+1) [] nm [] []).2.2)
def svcP(i:Nt)(nm:ByteArray):List Bx×Int:=if sEq nm ⟨#[]⟩=true then(initS,0)else if(svcF i.svcs nm).1≠0 then([],(svcF i.svcs nm).1)else svcGo (svcF i.svcs nm).2 []
def bindE{α:Type}(x:α×Int)(k:α->List Bx×Int):List Bx×Int:=if x.2≠0 then([],x.2)else k x.1
theorem bindE_ok{α:Type}{x:α×Int}{k:α->List Bx×Int}(h:x.2=0):bindE x k=k x.1:=by rw[bindE,if_neg (by omega)]
theorem bindE_no{α:Type}{x:α×Int}{k:α->List Bx×Int}(h:x.2≠0):bindE x k=([],x.2):=by rw[bindE,if_pos h]
noncomputable def stmP(t:Tp)(i:Nt)(s:Sm):List Bx×Int:=
 bindE (grpP t i s.frm) fun f=>bindE (grpP t i s.to) fun g=>bindE (svcP i s.svc) fun v=>
 bindE (if s.exc then grpP t i s.exF else([],0)) fun o=>bindE (if s.exc then grpP t i s.exT else([],0)) fun n=>
 bindE (makeP (btwB f g)) fun b=>if(combP anB b v).2≠0\/s.exc=false then combP anB b v else
 bindE (makeP (btwB o n)) fun b2=>combP woB (combP anB b v).1 b2
def namE(t:Tp)(i:Nt)(s:Sm):Int:=
 if(sEq s.cls ⟨#[]⟩||t.devs.any fun d=>sEq d.cls s.cls)&&(sEq s.dur ⟨#[]⟩||i.wins.any fun w=>sEq w.name s.dur)then 0 else 5
def fstE{α:Type}(f:α->Int):List α->Int
 |[]=>0
 |x::l=>if f x≠0 then f x else fstE f l
noncomputable def chkP(t:Tp)(i:Nt):Int:=
 let a:=fstE (fun d:Df=>(grpP t i d.name).2) i.grps
 if a≠0 then a else
 let b:=fstE (fun d:Df=>(svcP i d.name).2) i.svcs
 if b≠0 then b else
 let c:=fstE (fun s:Sm=>if(stmP t i s).2≠0 then(stmP t i s).2 else namE t i s) i.sts
 if c≠0 then c else
 let d:=fstE (fun p:Pb=>if edgeIx t.edges p.edge<0 then 5 else 0) i.pubs
 if d≠0 then d else
 fstE (fun h:Hn=>if edgeIx t.edges h.edge<0 then 5 else(grpP t i h.grp).2) i.hids
def inIt(t:Tp)(x:It)(u:Int):Prop:=if x.kind=2 then has [x.pf.rg] u=true else ∃e,e∈t.edges/\sEq e.zone x.name=true/\has [e.pf.rg] u=true
def okIt(t:Tp)(x:It):Bool:=decide (x.kind=2)|| !(ixs (fun e=>sEq e.zone x.name) t.edges t.edges.length).isEmpty
theorem has_app(a b:List Rg)(u:Int):has (a++b) u=(has a u||has b u):=by unfold has;rw[List.any_append]
theorem vis_G(t:Tp):Vis (visG t) (fun rs u=>has rs u=true) (inIt t) (okIt t) where
 add:=fun x s h u=>by
  unfold visG at h⊢
  unfold inIt
  by_cases hk:x.kind=2
  ·simp only[if_pos hk]
   rw[has_app,Bool.or_eq_true]
  ·simp only[if_neg hk]at h⊢
   by_cases hi:ixs (fun e=>sEq e.zone x.name) t.edges t.edges.length=[]
   ·rw[if_pos hi]at h;simp at h
   ·rw[if_neg hi]
    simp only
    rw[has_app,Bool.or_eq_true]
    refine or_congr Iff.rfl ?_
    constructor
    ·intro hh
     obtain⟨r,hr,h1,h2⟩:=has_iff.1 hh
     obtain⟨n,hn,rfl⟩:=List.mem_map.1 hr
     obtain⟨_,e,he,hz⟩:=ixs_lt hn
     refine⟨e,List.mem_of_getElem? he,hz,has_iff.2 ⟨e.pf.rg,by simp,?_⟩⟩
     rw[rgAt,he]at h1 h2
     exact⟨h1,h2⟩
    ·rintro⟨e,he,hz,hh⟩
     obtain⟨k,hk2⟩:=List.mem_iff_getElem?.1 he
     obtain⟨r,hr,h1,h2⟩:=has_iff.1 hh
     rw[List.mem_singleton.1 hr]at h1 h2
     refine has_iff.2 ⟨rgAt t k,List.mem_map.2 ⟨k,?_,rfl⟩,?_⟩
     ·rw[ixs,List.mem_filter,List.mem_range]
      exact⟨(List.getElem?_eq_some_iff.1 hk2).1,by simp only[hk2];exact hz⟩
     ·rw[rgAt,hk2];exact⟨h1,h2⟩
 ok:=fun x s=>by
  unfold visG okIt
  by_cases hk:x.kind=2
  ·simp[hk]
  ·simp only[if_neg hk]
   cases hi:ixs (fun e=>sEq e.zone x.name) t.edges t.edges.length with
   |nil=>simp[hk]
   |cons a l=>simp
theorem vis_S:Vis visS (fun its y=>y∈its) (fun x y=>y=x) (fun _=>true) where
 add:=fun x s h u=>by simp[visS]
 ok:=fun x s=>by simp[visS]
theorem folI_err{S:Type}{v:It->S->Int×S}(hv:∀x s,(v x s).1=0\/(v x s).1=5){rec:ByteArray->List Nat->S->Int×List Nat×S}(hr:∀nm d s,(rec nm d s).1=0\/(rec nm d s).1=5\/(rec nm d s).1=8):
  ∀(its:List It) (d:List Nat) (s:S),(folI v rec its d s).1=0\/(folI v rec its d s).1=5\/(folI v rec its d s).1=8
 |[],d,s=>.inl rfl
 |x::r,d,s=>by
  rw[folI_cons]
  have hq:(if x.kind=3 then rec x.name d s else((v x s).1,d,(v x s).2)).1=0\/(if x.kind=3 then rec x.name d s else((v x s).1,d,(v x s).2)).1=5\/(if x.kind=3 then rec x.name d s else((v x s).1,d,(v x s).2)).1=8:=by
   by_cases hk:x.kind=3
   ·rw[if_pos hk];exact hr _ _ _
   ·rw[if_neg hk]
    rcases hv x s with h|h
    ·exact .inl h
    ·exact .inr (.inl h)
  generalize (if x.kind=3 then rec x.name d s else((v x s).1,d,(v x s).2))=q at*
  split
  ·exact folI_err hv hr r _ _
  ·exact hq
theorem fol_err{S:Type}{v:It->S->Int×S}(hv:∀x s,(v x s).1=0\/(v x s).1=5)(l:List Df):∀(k:Nat) (p:List Nat) (nm:ByteArray) (d:List Nat) (s:S),(fol v l k p nm d s).1=0\/(fol v l k p nm d s).1=5\/(fol v l k p nm d s).1=8
 |0,p,nm,d,s=>by simp[fol]
 |k+1,p,nm,d,s=>by
  unfold fol
  cases findD l nm with
  |none=>simp
  |some n=>
   simp only
   split
   ·simp
   ·split
    ·simp
    ·split
     ·simp
     ·exact folI_err hv (fun nm d s=>fol_err hv l k (p++[n]) nm d s) _ _ _
theorem svcF_err(l:List Df)(nm:ByteArray):(svcF l nm).1=0\/(svcF l nm).1=5\/(svcF l nm).1=8:=fol_err (fun x s=>.inl rfl) l _ _ _ _ _
theorem grp_lead{t:Tp}{l:List Df}{nm:ByteArray}(hn:sEq nm ⟨#[]⟩=false)(h:(grpE t l nm).1=0):Good l (okIt t) nm/\∀u,has (grpE t l nm).2 u=true↔Lead l (inIt t) nm u:=by
 unfold grpE at h⊢
 rw[if_neg (by rw[hn];decide)]at h⊢
 exact fol_lead (visG t) (fun rs u=>has rs u=true) (inIt t) (okIt t) (vis_G t) l nm [] (fun u=>by simp[has]) h
theorem svc_lead{l:List Df}{nm:ByteArray}(h:(svcF l nm).1=0):Good l (fun _=>true) nm/\∀y,y∈(svcF l nm).2↔Lead l (fun x y=>y=x) nm y:=
 fol_lead visS (fun its y=>y∈its) (fun x y=>y=x) (fun _=>true) vis_S l nm [] (fun u=>by simp) h
def sEqD(a b:ByteArray):Bool:=a.data.toList==b.data.toList
def itC(x:It)(g:Bool):Bool:=
 if x.kind=3 then nmChk x.name.data.toList&&itN x
 else if x.kind=1 then g&&(nmChk x.name.data.toList&&itN x)
 else if x.kind=2 then g&&(decide x.pf.okP&&(sEqD x.name ⟨#[]⟩&&decide (x.proto=0/\x.ports.lo=0/\x.ports.hi=0)))
 else if x.kind=4 then !g&&(prB x.proto x.ports&&(sEqD x.name ⟨#[]⟩&&decide (x.pf.addr=0/\x.pf.bits=0)))else false
theorem itC_itB{x:It}{g:Bool}(h:itC x g=true):itB x g=true:=by
 have hn:nmChk x.name.data.toList=true->nameB x.name=true:=fun h=>nameB_true (nameOk_data h)
 have he:sEqD x.name ⟨#[]⟩=sEq x.name ⟨#[]⟩:=(sEq_data _ _).symm
 unfold itC at h
 unfold itB itP itS
 rw[he]at h
 split
 ·rename_i hk
  rw[if_pos hk,Bool.and_eq_true]at h
  rw[hn h.1,h.2];rfl
 ·rename_i hk
  rw[if_neg hk]at h
  split
  ·rename_i hk1
   rw[if_pos hk1,Bool.and_eq_true,Bool.and_eq_true]at h
   rw[h.1,hn h.2.1,h.2.2];rfl
  ·rename_i hk1
   rw[if_neg hk1]at h
   exact h
def dfC(l:List Df)(g:Bool)(i:Nat)(d:Df):Bool:=
 nmChk d.name.data.toList&&(decide (l.findIdx? (fun e=>sEqD e.name d.name)=some i)&&(decide (1<=d.items.length)&&(decide (d.items.length<=16)&&d.items.all fun x=>itC x g)))
def dfsC(l:List Df)(g:Bool):Bool:=decide (l.length<=32)&&(l.zipIdx.all fun q=>dfC l g q.2 q.1)
theorem dfsC_ok{l:List Df}{g:Bool}(h:dfsC l g=true):DfsOk l g:=by
 unfold dfsC at h
 rw[Bool.and_eq_true,decide_eq_true_eq,List.all_eq_true]at h
 refine⟨h.1,fun i d hd=>?_⟩
 have h2:=h.2 (d,i) (List.mem_zipIdx_iff_getElem?.2 hd)
 unfold dfC at h2
 simp only[Bool.and_eq_true,decide_eq_true_eq,List.all_eq_true]at h2
 obtain⟨h3,h4,h5,h6,h7⟩:=h2
 refine⟨nameB_true (nameOk_data h3),?_,h5,h6,fun x hx=>itC_itB (h7 x hx)⟩
 have e:(fun e:Df=>sEq e.name d.name)=fun e=>sEqD e.name d.name:=by funext e;exact sEq_data _ _
 unfold dfIx firstIx
 rw[e,h4]
def defI(g s:List Df):Nt:=⟨g,s,[],[],[],[]⟩
theorem defI_ok{g s:List Df}(hg:dfsC g true=true)(hs:dfsC s false=true):NtOk (defI g s):=
 ⟨dfsC_ok hg,dfsC_ok hs,Nat.zero_le _,Nat.zero_le _,Nat.zero_le _,Nat.zero_le _,fun k x h=>by simp[defI]at h,fun x h=>by simp[defI]at h,fun x h=>by simp[defI]at h,fun x h=>by simp[defI]at h⟩
/-! the topology of the examples -/
def pf0:Pf:=⟨167772160,24,by decide,by decide⟩
def pf4:Pf:=⟨2886729728,16,by decide,by decide⟩
def netR:Tp:=⟨[⟨⟨#[114]⟩,0,false,false,⟨#[]⟩⟩],[],[⟨⟨#[97]⟩,0,⟨#[108,97,110]⟩,pf0,false⟩,⟨⟨#[98]⟩,0,⟨#[100,109,122]⟩,pf4,false⟩],[],0⟩
theorem topOk_netR:TopOk netR:=by
 have sEqr:∀s:ByteArray,sEq s s=true:=fun s=>by rw[sEq_data];simp
 refine⟨by simp[netR],by simp[netR],by simp[netR],by simp[netR],by simp[netR],by simp[netR],by simp[netR],?_,?_,?_,?_,?_⟩
 ·intro i d hi
  match i,hi with
  |0,hi=>
   simp[netR]at hi;subst hi
   exact⟨⟨nameOk_data (s:=⟨#[114]⟩) (by decide),by decide,by decide,.inl (sEqr _)⟩,firstIx_at (k:=0) rfl (sEqr _) (fun j y hj=>absurd hj (Nat.not_lt_zero _))⟩
  |i+1,hi=>simp[netR]at hi
 ·intro i l hi
  simp[netR]at hi
 ·intro i e hi
  match i,hi with
  |0,hi=>
   simp[netR]at hi;subst hi
   exact⟨⟨nameOk_data (by decide),nameOk_data (by decide),by decide,by simp[netR],by decide,by decide,by decide⟩,firstIx_at (k:=0) rfl (sEqr _) (fun j y hj=>absurd hj (Nat.not_lt_zero _))⟩
  |1,hi=>
   simp[netR]at hi;subst hi
   refine⟨⟨nameOk_data (by decide),nameOk_data (by decide),by decide,by simp[netR],by decide,by decide,by decide⟩,firstIx_at (k:=1) rfl (sEqr _) (fun j y hj hy=>?_)⟩
   obtain rfl:j=0:=by omega
   simp[netR]at hy;subst hy
   rw[sEq_data];rfl
  |i+2,hi=>simp[netR]at hi
 ·rintro i e hi j o hj ho ⟨_,_,h3⟩
  match i,hi,j,ho with
  |0,hi,j,ho=>omega
  |1,hi,0,ho=>simp[netR]at hi ho;subst hi;subst ho;revert h3;decide
  |1,hi,j+1,ho=>omega
  |i+2,hi,j,ho=>simp[netR]at hi
 ·intro i p hi
  simp[netR]at hi
theorem comp_netR:compB netR=true:=compB_iff.2 ⟨topOk_netR,fun e he=>by
 simp only[netR,List.mem_cons,List.not_mem_nil,or_false]at he
 rcases he with rfl|rfl<;>rfl⟩
def nmB(c:UInt8):ByteArray:=⟨#[c]⟩
def itNm(s:ByteArray):It:=⟨3,s,⟨0,0,by decide,by decide⟩,0,zR⟩
def itZn(s:ByteArray):It:=⟨1,s,⟨0,0,by decide,by decide⟩,0,zR⟩
def sanG:List Df:=[⟨nmB 97,[itNm (nmB 98)]⟩,⟨nmB 98,[itZn ⟨#[100,109,122]⟩]⟩,⟨nmB 99,[itNm (nmB 99)]⟩]
theorem san_ok:NtOk (defI sanG []):=defI_ok (by decide+kernel) (by decide+kernel)
theorem san_a:grpE netR sanG (nmB 97)=(0,[pf4.rg]):=by decide+kernel
theorem san_b:grpE netR sanG (nmB 98)=(0,[pf4.rg]):=by decide+kernel
theorem san_c:(grpE netR sanG (nmB 99)).1=8:=by decide+kernel
end Go.Proofs.YtahhamfngafmcaaGreatDoor
