/- Packet sets: what lies in one box is no larger than the set. -/
import Derived.Shelf.SlLaysF0
import Derived.Test.YtahhamfngafmcaaGreatDoorProg
import Derived.Shelf.SlSortCmp.WholeK
import Derived.Shelf.SlSortCmp.NoneTotal
import Derived.Test.YtahhamfngafmcaaGreatDoorM25
set_option linter.unusedVariables false
set_option linter.unusedSimpArgs false
set_option maxRecDepth 100000
set_option maxHeartbeats 4000000
namespace Go.Proofs.YtahhamfngafmcaaGreatDoor
open Go Go.Vm
/-! ### Two boxes joined -/
/-! ### Pairs of what is cut by ranges -/
section
variable {t:Tp} {i:Nt} {A:List Bx}
end
/-! ### Sums over all pairs -/
/-! ### Real headers and two boxes -/
/-! ### All pairs -/
theorem cov_of{p q:Pf}(hp:p.okP)(hq:q.okP)(hb:p.bits<=q.bits)(h1:p.addr<=q.addr+pz q.bits-1)(h2:q.addr<=p.addr+pz p.bits-1):p.cov q=true:=by
 have hs:=pz_pos q.bits
 obtain⟨k,hk,e⟩:=pz_mul hb hq.2.1
 refine cov_iff.2 ⟨hq,hb,has_iffP.2 ⟨hp,?_,h2⟩⟩
 have ha:=hp.2.2
 rw[e]at ha
 have e1:pz q.bits∣p.addr:=Int.dvd_trans (Int.dvd_mul_right (pz q.bits) k) (Int.dvd_of_emod_eq_zero ha)
 have e2:pz q.bits∣q.addr:=Int.dvd_of_emod_eq_zero hq.2.2
 rcases Int.lt_or_le q.addr p.addr with hlt|hge
 ·have:=Int.le_of_dvd (by omega) (Int.dvd_sub e1 e2)
  omega
 ·exact hge
theorem meet_apart{p q:Pf}(hp:p.okP)(hq:q.okP)(h:p.meet q=false):p.rg.hi<q.rg.lo\/q.rg.hi<p.rg.lo:=by
 unfold Pf.meet at h
 rw[Bool.or_eq_false_iff]at h
 rw[rg_lo hp,rg_lo hq,rg_hi hp,rg_hi hq]
 rcases Int.lt_or_le (p.addr+pz p.bits-1) q.addr with h1|h1
 ·exact .inl h1
 ·rcases Int.lt_or_le (q.addr+pz q.bits-1) p.addr with h2|h2
  ·exact .inr h2
  ·exfalso
   rcases Int.le_total p.bits q.bits with hb|hb
   ·rw[cov_of hp hq hb h2 h1]at h;exact absurd h.1 (by decide)
   ·rw[cov_of hq hp hb h1 h2]at h;exact absurd h.2 (by decide)
theorem edges_apart{t:Tp}(hc:compB t=true):ApartR (t.edges.map fun e=>e.pf.rg):=by
 obtain⟨ht,hp⟩:=compB_iff.1 hc
 refine List.pairwise_iff_getElem.2 fun i j hi hj hij=>?_
 rw[List.getElem_map,List.getElem_map]
 rw[List.length_map]at hi hj
 have h:=ht.apart j _ (List.getElem?_eq_getElem hj) i _ hij (List.getElem?_eq_getElem hi)
 have p1:=hp _ (List.getElem_mem hi)
 have p2:=hp _ (List.getElem_mem hj)
 have hm:(t.edges[j]).pf.meet (t.edges[i]).pf=false:=by
  cases hx:(t.edges[j]).pf.meet (t.edges[i]).pf with
  |false=>rfl
  |true=>exact absurd ⟨p2,p1,hx⟩ h
 obtain⟨_,_,_,_,_,o1,_⟩:=(ht.edge i _ (List.getElem?_eq_getElem hi)).1
 obtain⟨_,_,_,_,_,o2,_⟩:=(ht.edge j _ (List.getElem?_eq_getElem hj)).1
 exact(meet_apart o2 o1 hm).symm
theorem firstIx_get{α:Type}{p:α->Bool}{l:List α}{k:Nat}(h:firstIx p l=k):∃x,l[k]? =some x/\p x=true:=by
 unfold firstIx at h
 split at h
 ·rename_i i hi
  obtain rfl:i=k:=by omega
  obtain⟨h1,h2,_⟩:=List.findIdx?_eq_some_iff_getElem.1 hi
  exact⟨_,List.getElem?_eq_getElem h1,h2⟩
 ·omega
end Go.Proofs.YtahhamfngafmcaaGreatDoor
namespace Go.Proofs
open Go.Shelf
def Tryz.sortR_ren:Go.Shelf.Ren:=⟨fun|6=>185|15=>208|14=>207|28=>229|29=>230|20=>221|21=>222|22=>223|23=>224|24=>225|25=>226|26=>227|27=>228|46=>239|47=>240|48=>241|49=>242|50=>243|57=>249|n=>n,fun|22=>45|24=>54|25=>218|3=>3|39=>118|0=>0|53=>23|55=>115|4=>4|46=>237|45=>236|50=>241|5=>5|9=>9|66=>253|70=>257|76=>264|77=>172|n=>n,fun|n=>n⟩
theorem Tryz.sortR:Go.Proofs.SlLaysF0.n6 Tryz.prog Tryz.sortR_ren:={
 mixed:=by kernel_rfl
 f6:=⟨Tryz.f185.name,by decide,Tryz.func185.trans (congrArg some (by kernel_rfl))⟩
 f14:=⟨Tryz.f207.name,by decide,Tryz.func207.trans (congrArg some (by kernel_rfl))⟩
 f15:=Tryz.func208.trans (congrArg some (by kernel_rfl))
 f20:=⟨Tryz.f221.name,by decide,Tryz.func221.trans (congrArg some (by kernel_rfl))⟩
 f21:=⟨Tryz.f222.name,by decide,Tryz.func222.trans (congrArg some (by kernel_rfl))⟩
 f22:=⟨Tryz.f223.name,by decide,Tryz.func223.trans (congrArg some (by kernel_rfl))⟩
 f23:=⟨Tryz.f224.name,by decide,Tryz.func224.trans (congrArg some (by kernel_rfl))⟩
 f24:=⟨Tryz.f225.name,by decide,Tryz.func225.trans (congrArg some (by kernel_rfl))⟩
 f25:=⟨Tryz.f226.name,by decide,Tryz.func226.trans (congrArg some (by kernel_rfl))⟩
 f26:=⟨Tryz.f227.name,by decide,Tryz.func227.trans (congrArg some (by kernel_rfl))⟩
 f27:=⟨Tryz.f228.name,by decide,Tryz.func228.trans (congrArg some (by kernel_rfl))⟩
 f28:=Tryz.func229.trans (congrArg some (by kernel_rfl))
 f29:=Tryz.func230.trans (congrArg some (by kernel_rfl))
 f46:=⟨Tryz.f239.name,by decide,Tryz.func239.trans (congrArg some (by kernel_rfl))⟩
 f47:=Tryz.func240.trans (congrArg some (by kernel_rfl))
 f48:=Tryz.func241.trans (congrArg some (by kernel_rfl))
 f49:=⟨Tryz.f242.name,by decide,Tryz.func242.trans (congrArg some (by kernel_rfl))⟩
 f50:=⟨Tryz.f243.name,by decide,Tryz.func243.trans (congrArg some (by kernel_rfl))⟩
 f57:=⟨Tryz.f249.name,by decide,Tryz.func249.trans (congrArg some (by kernel_rfl))⟩
 t0:=Tryz.underlying0
 a0:=Tryz.isAgg0
 z0:=Tryz.sizeOf0
 v0:=Tryz.zeroValue0
 t3:=Tryz.underlying3
 a3:=Tryz.isAgg3
 z3:=Tryz.sizeOf3
 v3:=Tryz.zeroValue3
 t4:=Tryz.underlying4
 a4:=Tryz.isAgg4
 z4:=Tryz.sizeOf4
 v4:=Tryz.zeroValue4
 t5:=Tryz.underlying5
 a5:=Tryz.isAgg5
 z5:=Tryz.sizeOf5
 v5:=Tryz.zeroValue5
 t9:=Tryz.underlying9
 a9:=Tryz.isAgg9
 z9:=Tryz.sizeOf9
 v9:=Tryz.zeroValue9
 t22:=Tryz.underlying45
 a22:=Tryz.isAgg45
 z22:=Tryz.sizeOf45
 v22:=Tryz.zeroValue45
 t25:=Tryz.underlying218
 a25:=Tryz.isAgg218
 z25:=Tryz.sizeOf218
 v25:=Tryz.zeroValue218
 t39:=Tryz.underlying118
 a39:=Tryz.isAgg118
 z39:=Tryz.sizeOf118
 v39:=Tryz.zeroValue118
 t45:=Tryz.underlying236
 a45:=Tryz.isAgg236
 z45:=Tryz.sizeOf236
 v45:=Tryz.zeroValue236
 t46:=Tryz.underlying237
 a46:=Tryz.isAgg237
 z46:=Tryz.sizeOf237
 v46:=Tryz.zeroValue237
 t50:=Tryz.underlying241
 a50:=Tryz.isAgg241
 z50:=Tryz.sizeOf241
 v50:=Tryz.zeroValue241
 t53:=Tryz.underlying23
 a53:=Tryz.isAgg23
 z53:=Tryz.sizeOf23
 v53:=Tryz.zeroValue23
 t55:=Tryz.underlying115
 a55:=Tryz.isAgg115
 z55:=Tryz.sizeOf115
 v55:=Tryz.zeroValue115
 t66:=Tryz.underlying253
 a66:=Tryz.isAgg253
 z66:=Tryz.sizeOf253
 v66:=Tryz.zeroValue253
 t70:=Tryz.underlying257
 a70:=Tryz.isAgg257
 z70:=Tryz.sizeOf257
 v70:=Tryz.zeroValue257
 t76:=Tryz.underlying264
 a76:=Tryz.isAgg264
 z76:=Tryz.sizeOf264
 v76:=Tryz.zeroValue264
 t77:=Tryz.underlying172
 a77:=Tryz.isAgg172
 z77:=Tryz.sizeOf172
 v77:=Tryz.zeroValue172}
end Go.Proofs
namespace Go.Vm
open Go.Sort Go.Proofs Go.Shelf
theorem rep_none(W:World)(hg:GlobOk (fun _=>False) W):Rep noInj (fun _=>False) W ([]:List Obj).length (enumH 0 []):=
 ⟨fun _ _=>rfl,fun id o hg=>by simp[enumH,get]at hg,fun id id' o o' b base base' hg=>by simp[enumH,get]at hg,fun b hb=>hb.elim,hg⟩
theorem grow_of_ext{W w':World}{ι':Inj}{h':Hp}{E':Nat->Prop}(x:Ext noInj (enumH 0 []) (fun _=>False) W ι' h' E' w'):∃q os',w'=grow (W.drewN q) os':=by
 have hno:∀b,¬Own noInj (enumH 0 []) b:=fun b ⟨id,o,base,hg,_⟩=>by simp[enumH,get]at hg
 refine⟨w'.drawn-W.drawn,w'.heap.extract W.heap.size w'.heap.size,?_⟩
 have hh:w'.heap=W.heap++w'.heap.extract W.heap.size w'.heap.size:=by
  apply Array.ext_getElem?
  intro i
  rw[Array.getElem?_append]
  split
  ·rename_i hi
   exact(x.old i hi (hno i)).1
  ·rename_i hi
   rw[Array.getElem?_extract]
   have hsz:=x.size
   split
   ·congr 1;omega
   ·rw[Array.getElem?_eq_none];omega
 have hd:=x.drawn
 have h1:=x.os;have h2:=x.tape;have h3:=x.output
 cases w'
 cases W
 simp only[grow,World.drewN]at*
 subst h1;subst h2;subst h3
 congr 1
 omega
section
variable {P:Program} {α:Type} [Inhabited α]
theorem cmpLays_of{g:Nat}{enc:α->List Value}{k:Nat}{cf:α->α->Int}{blk off size:Nat}{w:World}(hgl:∀(m:Nat) (os:Array Go.Obj) (dk:Array α),GlobOk (fun _=>False) (sortWorldK enc k w blk off m dk os))
  (h:∀x y:α,ACall P g [.agg ((enc x).map .v),.agg ((enc y).map .v)] [] fun r hs=>r=.v (.int .i64 (cf x y))/\hs=[]):CmpLays P g #[] enc k cf blk off size w:=by
 intro m os dk _ x y
 have hgW:=hgl m os dk
 generalize sortWorldK enc k w blk off m dk os=W at hgW⊢
 obtain⟨_,h2⟩:=(h x y).elim
 have one:∀z:α,Rel (fun _=>False) W noInj (.agg ((enc z).map .v)) (.agg (enc z).toArray):=fun z=>
  .agg _ _ (by simp) (fun i a b ha hb=>by
   have hb':(enc z)[i]? =some b:=by simpa using hb
   rw[List.getElem?_map,hb']at ha
   cases ha
   exact .v _)
 have hv:RL (fun _=>False) W noInj [.agg ((enc x).map .v),.agg ((enc y).map .v)] #[.agg (enc x).toArray,.agg (enc y).toArray]:=RL.cons (one x) (RL.cons (one y) rl_nil)
 rw[Array.append_empty]
 refine(h2 noInj _ W _ (rep_none W hgW) hv).mono ?_
 rintro e w' ⟨v,rv,hs',ι',E',rfl,⟨rfl,rfl⟩,_,hr,x⟩
 cases hr
 exact⟨rfl,grow_of_ext x⟩
variable {E:Nat->Prop} {w:World} {ι:Inj} {n:Nat} {h:Hp}
theorem GlobOk.none{E:Nat->Prop}{w:World}(h:GlobOk E w):GlobOk (fun _=>False) w:=fun g cs hg=>by
 obtain⟨_,h2,h3⟩:=h g cs hg
 exact⟨fun f=>f,h2,h3⟩
theorem glob_grow{E:Nat->Prop}{w:World}(h:GlobOk E w)(m:Nat)(os:Array Go.Obj):GlobOk E (grow (Sort.ahead w m) os):=fun g cs hg=>by
 obtain⟨h1,h2,h3⟩:=h g cs hg
 refine⟨h1,?_,fun j y hy=>?_⟩
 ·rw[size_grow];exact Nat.lt_of_lt_of_le h2 (Nat.le_add_right _ _)
 ·rw[cell_of_heap (a:=⟨g,j,Option.none⟩) (heap_grow_old (Sort.ahead w m) os h2)];exact h3 j y hy
theorem rep_grow(r:Rep ι E w n h)(m:Nat)(os:Array Go.Obj):Rep ι E (grow (Sort.ahead w m) os) n h/\Ext ι h E w ι h E (grow (Sort.ahead w m) os):=by
 have hh:∀b,b<w.heap.size->(grow (Sort.ahead w m) os).heap[b]? =w.heap[b]? :=fun b hb=>heap_grow_old (Sort.ahead w m) os hb
 have hsz:w.heap.size<=(grow (Sort.ahead w m) os).heap.size:=by rw[size_grow];exact Nat.le_add_right _ _
 have hc:∀a:Addr,a.block<w.heap.size->(grow (Sort.ahead w m) os).cell? a=w.cell? a:=fun a ha=>cell_of_heap (hh _ ha)
 have hf:∀a:Addr,a.block<w.heap.size->(grow (Sort.ahead w m) os).frozen? a=w.frozen? a:=fun a ha=>by simp only[World.frozen?,hh _ ha]
 have hk:Keeps E w E (grow (Sort.ahead w m) os):=⟨hsz,fun b hb hE=>⟨hh b hb,hE⟩,fun a ha=>by rw[hc a (lt_of_cell ha)];exact ha,fun a ha=>hf a (lt_of_cell ha)⟩
 exact⟨⟨r.fresh,fun id o hg=>(r.obj id o hg).keep hk (fun _ _ h=>h) (fun b base hb=>r.own_E ⟨id,o,base,hg,hb⟩) (fun b base hb=>hh b (own_ne r hg hb)),r.sep,fun b hb=>Nat.lt_of_lt_of_le (r.bound b hb) hsz,r.glob.keep hk⟩,
  ⟨rfl,rfl,rfl,hsz,fun _ _ h=>h,fun b hb _=>⟨hh b hb,Iff.rfl⟩,fun _ _ h=>h,fun a ha=>by rw[hc a (lt_of_cell ha)];exact ha,fun a ha=>hf a ha,by show w.drawn<=w.drawn+m;omega⟩⟩
theorem cell?_putCells(d:Array Value)(w:World)(b off:Nat)(a:Addr)(h:(w.cell? a).isSome=true):((putRow id w b off d).cell? a).isSome=true:=by
 by_cases hb:a.block=b
 ·subst hb
  unfold putRow mapBlock
  simp only[World.cell?,Array.getElem?_modify,if_true]at h⊢
  cases hw:w.heap[a.block]? with
  |none=>simp[hw]at h
  |some o=>
   cases o with
   |cells c e fr=>
    simp only[hw,Option.map_some,onCells]at h⊢
    split at h
    ·simp at h
    ·rename_i hs
     simp only[hs]
     simp only[Bool.false_eq_true,if_false]at h⊢
     rw[Option.isSome_iff_exists]at h⊢
     obtain⟨v,hv⟩:=h
     have hlt:=(Array.getElem?_eq_some_iff.1 hv).1
     exact⟨_,Array.getElem?_eq_getElem (by simpa[putCells]using hlt)⟩
   |_=>simp[hw]at h
 ·rw[show(putRow id w b off d).cell? a=w.cell? a from cell?_putRow_other id w b off d a (Or.inl hb)];exact h
theorem frozen_putRow(d:Array Value)(w:World)(b off:Nat)(a:Addr):(putRow id w b off d).frozen? a=w.frozen? a:=by
 unfold putRow mapBlock World.frozen?
 simp only[Array.getElem?_modify]
 by_cases hb:b=a.block
 ·subst hb
  simp only[if_true]
  cases w.heap[a.block]? with
  |none=>rfl
  |some o=>cases o<;>rfl
 ·simp[hb]
theorem writes_putRow(d:Array Value)(w:World)(b off:Nat):Writes w b (putRow id w b off d):=
 ⟨rfl,rfl,rfl,by simp,fun k hk=>by simp[putRow,mapBlock,Array.getElem?_modify,Ne.symm hk],fun a ha=>cell?_putCells d w b off a ha,fun a=>frozen_putRow d w b off a,rfl⟩
theorem sort_of{f g k:Nat}{enc:α->List Value}{encA:α->AV}{cf:α->α->Int}(hok:okFn P f=true)(hk:∀x,(enc x).length=k)(henc:∀x,(encA x).cells=(enc x).map .v)
  (hsort:∀(blk off cap:Nat) (d:Array α) (w:World),HoldsK enc k w blk off d->blk<w.heap.size->d.size<4611686018427387904->(∀(m:Nat) (os:Array Go.Obj) (dk:Array α),GlobOk (fun _=>False) (sortWorldK enc k w blk off m dk os))->
   Calls P f #[.slice (some ⟨blk,off,none⟩) d.size cap,.func (.func g) #[] #[]] w fun e w'=>e=.returned (.tuple #[])/\∃d' n os,PermIn 0 d.size d d'/\SortedIn (ltOf cf) 0 d.size d'/\w'=sortWorldK enc k w blk off n d' os)
  (hnone:∀(p:Option Addr) (cap:Nat) (fv:Value) (w:World),Calls P f #[.slice p 0 cap,fv] w fun e w'=>e=.returned (.tuple #[])/\w'=w)
  {d:List α}{len:Nat}(hlen:len=d.length)(hd:d.length<4611686018427387904){K:KT}
  (hK:∀d':List α,d'.Perm d->d'.Pairwise (fun x y=>ltOf cf y x=false)->K (.tup []) [.arr k (d'.map encA)]):
  ACall P f [.os 0 k 0 len,.fn (.func g) [] []] [.arr k (d.map encA)] K:=by
 refine ACall.intro hok fun ι E w vals r hv=>?_
 obtain⟨v0,vs,rfl,hv0,hv⟩:=hv.head
 obtain⟨v1,vs,e1,hv1,hv2⟩:=hv.head
 cases e1
 have hvs:vs=[]:=by have:=hv2.nil;simpa using this
 subst hvs
 have hfn:v1=.func (.func g) #[] #[]:=by
  cases hv1 with
  |fn _ _ _ F C hF hC _ _=>
   simp only[List.length_nil]at hF hC
   rw[Array.eq_empty_of_size_eq_zero hF.symm,Array.eq_empty_of_size_eq_zero hC.symm]
 subst hfn
 have hg:get (enumH 0 [.arr k (d.map encA)]) 0=some (.arr k (d.map encA)):=rfl
 rcases Nat.eq_zero_or_pos d.length with h0|h0
 ·have hd0:d=[]:=List.eq_nil_of_length_eq_zero h0
  subst hd0
  have hz:∃p cap,v0=.slice p 0 cap:=by
   subst hlen
   cases hv0 with
   |osz _ _ _ a=>exact⟨a,0,rfl⟩
   |os _ _ _ _ b base cap hι hc h=>exact⟨_,cap,rfl⟩
  obtain⟨p,cap,rfl⟩:=hz
  refine(hnone p cap _ w).mono ?_
  rintro e w' ⟨rfl,rfl⟩
  exact⟨_,.tup [],[.arr k []],ι,E,rfl,hK [] (List.Perm.refl _) List.Pairwise.nil,r,.tup [] #[] rfl (fun i x y hx _=>by simp at hx),Ext.refl⟩
 ·have hpos:0<len:=by omega
  cases hv0 with
  |osz _ _ _ a=>omega
  |os _ _ _ _ b base cap hι hc hcell=>
   have hsz:=sz_of r hg
   rcases r.obj 0 _ hg with⟨h1,_⟩|⟨b',base',h1,h2,h3,h4,h5⟩
   ·rw[hι]at h1;cases h1
   ·rw[hι]at h1;cases h1
    have hbang:∀{l:List α} {i:Nat} (hi:i<l.length),l.toArray[i]! =l[i]:=fun {l i} hi=>by simp[hi]
    have hH:HoldsK enc k w b base d.toArray:=by
     intro t ht
     have ht':t<d.toArray.size*k:=by simpa using ht
     have kp:0<k:=by
      rcases Nat.eq_zero_or_pos k with h0|h0
      ·subst h0;simp at ht'
      ·exact h0
     have hi:t/k<d.length:=by
      rw[Nat.div_lt_iff_lt_mul kp];simpa using ht'
     have hc:=Nat.mod_lt t kp
     rw[get_flatK _ _ _ _ ht',hbang hi]
     have hxi:(d.map encA)[t/k]? =some (encA d[t/k]):=by simp[hi]
     have hcl:(enc d[t/k])[t%k]? =some ((enc d[t/k])[t%k]'(by rw[hk];exact hc)):=List.getElem?_eq_getElem _
     have hcc:(encA d[t/k]).cells[t%k]? =some (.v ((enc d[t/k])[t%k]'(by rw[hk];exact hc))):=by rw[henc,List.getElem?_map,hcl];rfl
     obtain⟨u,e1,e2,e3⟩:=h5 _ _ _ _ hxi hcc
     have hu:u=(enc d[t/k])[t%k]'(by rw[hk];exact hc):=by cases e3;rfl
     have hoff:base+t/k*k+t%k=base+t:=by
      have:=Nat.div_add_mod t k
      rw[Nat.mul_comm]at this
      omega
     rw[hoff]at e1 e2
     refine⟨?_,e2⟩
     rw[e1,hu,getElem!_pos (enc d[t/k]) (t%k) (by rw[hk];exact hc)]
     rfl
    have hgl:∀(m:Nat) (os:Array Go.Obj) (dk:Array α),GlobOk (fun _=>False) (sortWorldK enc k w b base m dk os):=fun m os dk=>by
     have g1:=r.glob.keep ((writes_putRow (flatK enc k dk) w b base).keeps h2)
     exact(glob_grow g1 m os).none
    have h:=hsort b base cap d.toArray w hH h3 (by simpa using hd) hgl
    rw[show base+0*k=base by omega,hlen,show d.length=d.toArray.size by simp]
    refine h.mono ?_
    rintro e w' ⟨rfl,d',m,os,hp,hs,rfl⟩
    obtain⟨p1,p2,p3⟩:=hp
    have hd':d'.size=d.length:=by simpa using p1
    have hH':=holdsK_sortWorldK_c enc k w b base d.toArray d' m os hH h3 p1
    have hperm:d'.toList.Perm d:=by
     have e1:(d'.extract 0 d.toArray.size)=d':=by rw[<-p1];simp
     rw[e1]at p3
     simpa using p3
    refine⟨_,.tup [],[.arr k (d'.toList.map encA)],ι,E,rfl,hK _ hperm ?_,?_⟩
    ·rw[List.pairwise_iff_getElem]
     intro i j hi hj hij
     have:=hs i j (Nat.zero_le _) hij (by simp at hj;simpa[<-hd']using hj)
     simp at hi hj
     rw[getElem!_pos d' i hi,getElem!_pos d' j hj]at this
     simpa using this
    · -- the world: drawn on, the row put, blocks laid behind
      have e0:sortWorldK enc k w b base m d' os=grow (Sort.ahead (putRow id w b base (flatK enc k d')) m) os:=rfl
      have ho:ORel E (putRow id w b base (flatK enc k d')) ι 0 (.arr k (d'.toList.map encA)):=by
       refine .inr ⟨b,base,hι,h2,by simpa using h3,fun i x hx=>?_,fun i x j c hx hc=>?_⟩
       ·rw[List.getElem?_map,Option.map_eq_some_iff]at hx
        obtain⟨y,_,rfl⟩:=hx
        rw[henc,List.length_map,hk]
       ·rw[List.getElem?_map,Option.map_eq_some_iff]at hx
        obtain⟨y,hy,rfl⟩:=hx
        rw[henc,List.getElem?_map,Option.map_eq_some_iff]at hc
        obtain⟨u,hu,rfl⟩:=hc
        have hi:i<d'.size:=by have:=(List.getElem?_eq_some_iff.1 hy).1;simpa using this
        have hj:j<k:=by have:=(List.getElem?_eq_some_iff.1 hu).1;rwa[hk]at this
        have hHp:=holdsK_putRowK enc k w b base d.toArray d' hH p1
        have:=HoldsK.cell hHp hi hj
        have ey:d'[i]! =y:=by
         rw[getElem!_pos d' i hi]
         have:d'.toList[i]? =some d'[i]:=by simp[hi]
         rw[this]at hy;exact Option.some.inj hy
        rw[ey,getElem!_pos (enc y) j (by rw[hk];exact hj)]at this
        have eu:(enc y)[j]'(by rw[hk];exact hj)=u:=by
         rw[List.getElem?_eq_getElem (by rw[hk];exact hj)]at hu;exact Option.some.inj hu
        rw[eu]at this
        exact⟨u,this.1,this.2,.v _⟩
      have hput:=step_put (h0:=[]) r (fun id o hg=>by simp[get]at hg) hg hι rfl (writes_putRow (flatK enc k d') w b base) (fun _ _ h=>h) hι (fun _ _=>rfl) (Nat.le_refl _) r.fresh ho rfl
      have hgr:=rep_grow hput.1 m os
      rw[e0]
      exact⟨hgr.1,.tup [] #[] rfl (fun i x y hx _=>by simp at hx),hput.2.trans hgr.2⟩
end
end Go.Vm
namespace Go.Proofs.YtahhamfngafmcaaGreatDoor
open Go Go.Vm Go.Sort Go.Shelf Go.Proofs
instance:Inhabited Rg:=⟨⟨0,0,by decide,by decide,by decide,by decide⟩⟩
def encV(r:Rg):List Value:=[.int .u32 r.lo,.int .u32 r.hi]
def cmpR(r s:Rg):Int:=cmpI r.lo s.lo
theorem ltR(r s:Rg):ltOf cmpR r s=decide (r.lo<s.lo):=by
 unfold ltOf cmpR cmpI
 by_cases h1:r.lo<s.lo
 ·simp[h1]
 ·by_cases h2:s.lo<r.lo<;>simp[h1,h2]
theorem swoR:SWO (ltOf cmpR) where
 irrefl x:=by rw[ltR];simp
 trans x y z h1 h2:=by rw[ltR]at*;simp at*;omega
 ntrans x y z h1 h2:=by rw[ltR]at*;simp at*;omega
theorem sorts:Sorts:=by
 intro d n hn hd K hK
 have eg:∀args w,(callFunc 186 args).run Tryz.prog w=.ok (.enter 186 args) w:=enters_of Tryz.func186 (by kernel_rfl) rfl
 refine sort_of (k:=2) (enc:=encV) (encA:=encR) (cf:=cmpR) (by kernel_rfl) (fun _=>rfl) (fun _=>rfl) (fun blk off cap d w hH hb hs hgl=>?_) (fun p cap fv w=>?_) hn (by omega) (fun d' hp hs=>hK d' hp (hs.imp fun h=>?_))
 ·exact AnyQ.slices_SortFunc Tryz.sortR 2 Tryz.isAgg54 Tryz.sizeOf54 encV (fun _=>rfl) (fun x v hv=>by simp[encV]at hv;rcases hv with rfl|rfl<;>rfl) cmpR swoR 186 #[] blk off cap d w eg
   (cmpLays_of hgl fun x y=>c47 x y ⟨rfl,rfl⟩) hH hb hs
 ·exact AnyF.slices_SortFunc_none Tryz.sortR p cap fv w
 ·rw[ltR]at h;simp at h;omega
end Go.Proofs.YtahhamfngafmcaaGreatDoor
