/- Lemmas. -/
import Derived.Orders
import Derived.Laws.Sem
import Derived.Laws.World
import Derived.Laws.Cells
import Derived.Laws.Tables
import Derived.Below
import Derived.MapKept
import Derived.Maps.RangeRun
import Derived.Laws.StructEq
set_option linter.unusedVariables false
set_option linter.unusedSimpArgs false
set_option maxRecDepth 100000
set_option maxHeartbeats 4000000
namespace Go.Vm
abbrev aA:=@List.length_map
abbrev aB:=@List.length_cons
abbrev aC:=@List.length_append
abbrev aD:=@Nat.lt_or_ge
abbrev aE:=@List.getElem?_eq_getElem
abbrev aF:=@if_neg
abbrev aG:=@List.mem_of_getElem?
abbrev aH:=@if_pos
abbrev aI:=@List.length_nil
abbrev aJ:=@Bool.and_eq_true
abbrev aK:=@Nat.zero_le
abbrev aL:=@decide_eq_true_eq
abbrev aM:=@Int.natCast_one
abbrev aN:=@Int.natCast_add
abbrev aO:=@Nat.le_refl
abbrev aP:=@List.getElem?_eq_some_iff
abbrev aQ:=@List.map_append
abbrev aR:=@List.map_cons
abbrev aS:=@List.mem_cons_of_mem
abbrev aU:=@List.mem_singleton
abbrev aV:=@List.length_take
abbrev aW:=@List.take_of_length_le
abbrev aX:=@List.mem_append
abbrev aY:=@Nat.eq_of_beq_eq_true
abbrev aZ:=@List.mem_cons
abbrev bA:=@List.drop_eq_getElem_cons
abbrev bB:=@Option.some.inj
abbrev bC:=@Nat.le_trans
abbrev bD:=@Nat.not_lt_zero
abbrev bE:=@List.take_add_one
abbrev bF:=@List.getElem?_append_right
abbrev bG:=@List.append_nil
abbrev bH:=@List.mem_iff_getElem?
abbrev bI:=@List.map_nil
abbrev bJ:=@List.getElem?_append_left
abbrev bK:=@Bool.eq_iff_iff
abbrev bL:=@Array.getElem?_eq_getElem
abbrev bM:=@Nat.zero_add
abbrev bN:=@Option.some.injEq
abbrev bO:=@List.drop_of_length_le
abbrev bP:=@List.drop_zero
abbrev bQ:=@List.mem_map
abbrev bR:=@List.any_eq_true
abbrev bS:=@List.getElem?_eq_none
abbrev bT:=@List.all_eq_true
abbrev bU:=@Option.bind_some
abbrev bV:=@Bool.or_eq_true
abbrev bW:=@Option.map_eq_some_iff
abbrev bX:=@List.getElem?_map
abbrev bY:=@Bool.eq_false_iff
abbrev bZ:=@Nat.mul_le_mul_right
abbrev cA:=@List.take_zero
abbrev cB:=@Nat.le_of_ble_eq_true
abbrev cC:=@Int.le_refl
abbrev cD:=@Nat.add_assoc
abbrev cE:=@Nat.add_mul
abbrev cF:=@List.mem_append_left
abbrev cG:=@List.pairwise_cons
abbrev cH:=@List.length_drop
abbrev cI:=@Option.bind_eq_some_iff
abbrev cJ:=@List.getElem?_drop
abbrev cK:=@Bool.false_eq_true
abbrev cL:=@List.length_set
abbrev cM:=@List.append_assoc
abbrev cN:=@Nat.lt_of_lt_of_le
abbrev cO:=@List.getLast?_singleton
abbrev cP:=@List.mem_of_mem_take
abbrev cQ:=@List.length_singleton
abbrev cR:=@List.mem_filter
abbrev cS:=@List.flatMap_cons
abbrev cT:=@List.length_eq_zero_iff
abbrev cU:=@List.take_append_drop
abbrev cV:=@Nat.eq_zero_or_pos
abbrev cW:=@List.getLast?_append
abbrev cX:=@List.sum_cons
abbrev cY:=@Option.getD_some
abbrev cZ:=@List.getElem?_take
abbrev dA:=@Array.eq_empty_of_size_eq_zero
abbrev dB:=@List.nil_append
abbrev dC:=@List.length_pos_iff
abbrev dD:=@Int.tdiv_eq_ediv_of_nonneg
abbrev dE:=@List.getElem_mem
abbrev dF:=@List.take_length
abbrev dG:=@Option.map_some
abbrev dH:=@Nat.sub_self
abbrev dI:=@List.eq_nil_or_concat
abbrev dJ:=@List.concat_eq_append
abbrev dK:=@List.length_filter_le
abbrev dL:=@List.pairwise_iff_getElem
abbrev dM:=@List.dropLast_concat
abbrev dN:=@List.pairwise_append
abbrev dO:=@List.set_append_right
abbrev dP:=@List.filter_append
abbrev dQ:=@Bool.true_and
abbrev dR:=@List.eq_nil_of_length_eq_zero
abbrev dS:=@List.findIdx?_eq_some_iff_getElem
abbrev dT:=@Option.some_or
abbrev dU:=@Array.length_toList
abbrev dV:=@Nat.mul_le_mul_left
abbrev dW:=@List.filter_eq_self
abbrev dX:=@Bool.not_eq_true'
abbrev dY:=@Int.toNat_natCast
abbrev dZ:=@List.mem_of_mem_drop
abbrev eA:=@List.mem_flatMap
abbrev eB:=@List.not_mem_nil
abbrev eC:=@Option.bind_none
abbrev eF:=@List.map_congr_left
abbrev eG:=@List.mem_range
abbrev eH:=@Option.toList_some
abbrev eI:=@List.getElem?_cons_zero
abbrev eJ:=@Int.eq_ofNat_of_zero_le
abbrev eK:=@Bool.and_true
abbrev eM:=@Array.getElem?_append_left
abbrev eN:=@Nat.add_zero
abbrev eO:=@Array.getElem?_eq_some_iff
abbrev eQ:=@List.nodup_append
abbrev eR:=@List.flatten_cons
abbrev eS:=@Array.getElem?_toList
abbrev eT:=@List.mem_append_right
abbrev eU:=@List.eq_of_mem_replicate
abbrev eV:=@Nat.sub_zero
abbrev eW:=@List.cons_append
abbrev eX:=@Int.lt_or_le
abbrev eY:=@List.getElem?_take_of_lt
abbrev eZ:=@List.all_cons
abbrev fA:=@List.any_cons
abbrev fB:=@Bool.not_false
abbrev fC:=@List.getElem?_range
abbrev fD:=@List.mem_map_of_mem
abbrev fE:=@Array.getElem?_eq_none
abbrev fF:=@Nat.zero_mul
abbrev fG:=@Bool.false_or
abbrev fH:=@List.filter_cons
abbrev fI:=@Bool.false_and
abbrev fJ:=@List.foldl_cons
abbrev fK:=@Array.setIfInBounds_comm
abbrev fL:=@List.length_range
abbrev fM:=@List.any_eq_false
abbrev fN:=@Nat.add_sub_cancel_left
abbrev fO:=@List.map_eq_nil_iff
abbrev fP:=@Nat.mul_le_mul
abbrev fQ:=@Nat.one_mul
abbrev fR:=@List.filter_eq_nil_iff
abbrev fS:=@List.map_set
abbrev fT:=@Nat.two_pow_pos
abbrev fU:=@Int.tmod_eq_emod_of_nonneg
abbrev fV:=@Bool.not_true
abbrev fW:=@Bool.or_false
abbrev fX:=@List.forall_mem_cons
abbrev fY:=@List.getElem?_of_mem
abbrev fZ:=@Nat.pow_le_pow_right
abbrev gD:=@List.findIdx?_eq_none_iff
abbrev gE:=@Bool.or_eq_false_iff
abbrev gF:=@Nat.mul_add
abbrev gG:=@Nat.mul_one
abbrev gH:=@Option.isSome_iff_exists
abbrev gI:=@List.isEmpty_iff
abbrev gJ:=@List.flatMap_append
abbrev gK:=@List.take_succ_cons
abbrev gL:=@List.filter_cons_of_pos
abbrev gM:=@Nat.min_eq_left
abbrev gO:=@Array.append_assoc
abbrev gP:=@List.take_left'
abbrev gQ:=@List.all_nil
abbrev gR:=@Nat.mul_comm
abbrev gS:=@Array.getElem?_modify
abbrev gT:=@Nat.div_lt_iff_lt_mul
abbrev gU:=@List.map_map
theorem zo{p:Prop}(h:p:=by omega):p:=h
theorem zd{p:Prop}(h:p:=by decide):p:=h
theorem zx{p:Prop}(h:p:=by simp):p:=h
theorem zp{p:Prop}(h:p:=by assumption):p:=h
theorem zw{p:Prop}(h:p:=by with_reducible assumption):p:=h
theorem zs{p:Prop}(h:p:=by simp only;omega):p:=h
def aBP:List (Nat×List Value):=[(0,[.int .u32 4294967295,.int .u32 4294967295,.int .u32 255,.int .u32 65535,.int .u32 65535]),(1,[.int .u32 6,.int .u32 6,.int .u32 17,.int .u32 17,.int .u32 1,.int .u32 1,.int .u32 0,.int .u32 0,.int .u32 2,.int .u32 5,.int .u32 7,.int .u32 16,.int .u32 18,.int .u32 255]),(2,[.string ⟨#[109,111,110]⟩,.string ⟨#[116,117,101]⟩,.string ⟨#[119,101,100]⟩,.string ⟨#[116,104,117]⟩,.string ⟨#[102,114,105]⟩,.string ⟨#[115,97,116]⟩,.string ⟨#[115,117,110]⟩])]
def aLi:Nat:=166
def litTs:List Nat:=[111]
def aWE(t:Nat):Bool:=litTs.any fun u=>Nat.beq u t
inductive AV where
 |v (x:Value)
 |sb (b:Bool)
 |agg (cs:List AV)
 |nils
 |lst (xs:List AV)
 |fp (cs:List AV)
 |op (id off:Nat)
 |ep (id sz i off:Nat)
 |os (id sz off len:Nat)
 |fn (f:Fn) (first cap:List AV)
 |tup (vs:List AV)
 |junk
 |mp (id:Nat)
 |dfr (id:Nat) (s:ByteArray)
 deriving Inhabited
def AV.cells:AV->List AV
 |.agg cs=>cs
 |x=>[x]
def ofValue:Value->AV
 |.agg cs=>.agg (cs.toList.map fun x=>match x with|.slice none 0 0=>.nils|y=>.v y)
 |.slice none 0 0=>.nils
 |.func f fs cs=>if fs.isEmpty&&cs.isEmpty then .fn f [] []else .v (.func f fs cs)
 |x=>.v x
abbrev Inj:=Nat->Option (Option (Nat×Nat))
def jR:Inj:=fun _=>none
inductive Rel (E:Nat->Prop) (w:World):Inj->AV->Value->Prop
 |v {ι:Inj} (x:Value):Rel E w ι (.v x) x
 |sb {ι:Inj} (b:Bool):Rel E w ι (.sb b) (.bool b)
 |agg {ι:Inj} (cs:List AV) (c:Array Value) (hs:cs.length=c.size) (h:∀(i:Nat) x y,cs[i]? =some x->c[i]? =some y->Rel E w ι x y):Rel E w ι (.agg cs) (.agg c)
 |nils {ι:Inj}:Rel E w ι .nils (.slice none 0 0)
 |lnil {ι:Inj} (a:Option Addr) (c:Nat):Rel E w ι (.lst []) (.slice a 0 c)
 |lst {ι:Inj} (xs:List AV) (b off n cap sz:Nat) (hE:¬E b) (hb:b<w.heap.size) (hn:n=xs.length) (hcap:n<=cap)
   (hz:∀(i:Nat) x,xs[i]? =some x->x.cells.length=sz) (g:Nat->Nat->Value)
   (hg:∀(i:Nat) x (j:Nat) y,xs[i]? =some x->x.cells[j]? =some y->w.cell? ⟨b,off+i*sz+j,none⟩=some (g i j))
   (h:∀(i:Nat) x (j:Nat) y,xs[i]? =some x->x.cells[j]? =some y->Rel E w jR y (g i j)):
   Rel E w ι (.lst xs) (.slice (some ⟨b,off,none⟩) n cap)
 |fp {ι:Inj} (cs:List AV) (b off:Nat) (hE:¬E b) (hb:b<w.heap.size) (g:Nat->Value)
   (hg:∀(j:Nat) y,cs[j]? =some y->w.cell? ⟨b,off+j,none⟩=some (g j)) (h:∀(j:Nat) y,cs[j]? =some y->Rel E w jR y (g j)):Rel E w ι (.fp cs) (.pointer (some ⟨b,off,none⟩))
 |op {ι:Inj} (id off b base:Nat) (hι:ι id=some (some (b,base))):Rel E w ι (.op id off) (.pointer (some ⟨b,base+off,none⟩))
 |ep {ι:Inj} (id sz i off b base:Nat) (hι:ι id=some (some (b,base))):Rel E w ι (.ep id sz i off) (.pointer (some ⟨b,base+i*sz+off,none⟩))
 |osz {ι:Inj} (id sz off:Nat) (a:Option Addr):Rel E w ι (.os id sz off 0) (.slice a 0 0)
 |os {ι:Inj} (id sz off len b base cap:Nat) (hι:ι id=some (some (b,base))) (hc:len<=cap)
   (h:∀j,j<cap*sz->(w.cell? ⟨b,base+off*sz+j,none⟩).isSome=true/\w.frozen? ⟨b,base+off*sz+j,none⟩=false):
   Rel E w ι (.os id sz off len) (.slice (some ⟨b,base+off*sz,none⟩) len cap)
 |fn {ι:Inj} (f:Fn) (fs cs:List AV) (F C:Array Value) (hF:fs.length=F.size) (hC:cs.length=C.size)
   (h1:∀(i:Nat) x y,fs[i]? =some x->F[i]? =some y->Rel E w ι x y) (h2:∀(i:Nat) x y,cs[i]? =some x->C[i]? =some y->Rel E w ι x y):
   Rel E w ι (.fn f fs cs) (.func f F C)
 |tup {ι:Inj} (cs:List AV) (c:Array Value) (hs:cs.length=c.size) (h:∀(i:Nat) x y,cs[i]? =some x->c[i]? =some y->Rel E w ι x y):Rel E w ι (.tup cs) (.tuple c)
 |junk {ι:Inj} (x:Value):Rel E w ι .junk x
 |mp {ι:Inj} (id b base:Nat) (hι:ι id=some (some (b,base))):Rel E w ι (.mp id) (.map (some b))
 |dfr {ι:Inj} (id:Nat) (s:ByteArray) (x:Value):Rel E w ι (.dfr id s) x
structure Keeps (E:Nat->Prop) (w:World) (E':Nat->Prop) (w':World):Prop where
 size:w.heap.size<=w'.heap.size
 froz:∀b,b<w.heap.size->¬E b->w'.heap[b]? =w.heap[b]? /\¬E' b
 some:∀a,(w.cell? a).isSome=true->(w'.cell? a).isSome=true
 mark:∀a,(w.cell? a).isSome=true->w'.frozen? a=w.frozen? a
theorem cell_of_heap{w w':World}{a:Addr}(h:w'.heap[a.block]? =w.heap[a.block]?):w'.cell? a=w.cell? a:=by
 unfold World.cell?;rw[h]
theorem Rel.keep{E E':Nat->Prop}{w w':World}(hk:Keeps E w E' w'){ι:Inj}{x:AV}{y:Value}(h:Rel E w ι x y):
  ∀{ι':Inj},(∀id p,ι id=some p->ι' id=some p)->Rel E' w' ι' x y:=by
 induction h with
 |v x=>intro ι' _;exact .v x
 |sb b=>intro ι' _;exact .sb b
 |agg cs c hs h ih=>intro ι' hι;exact .agg cs c hs (fun i x y hx hy=>ih i x y hx hy hι)
 |nils=>intro ι' _;exact .nils
 |lnil a c=>intro ι' _;exact .lnil a c
 |lst xs b off n cap sz hE hb hn hcap hz g hg h ih=>
  intro ι' _;obtain⟨h1,h2⟩:=hk.froz b hb hE;exact .lst xs b off n cap sz h2 (cN hb hk.size) hn hcap hz g
   (fun i x j y hx hy=>by rw[cell_of_heap (a:=⟨b,_,none⟩) h1];exact hg i x j y hx hy) (fun i x j y hx hy=>ih i x j y hx hy (fun _ _ h=>h))
 |fp cs b off hE hb g hg h ih=>
  intro ι' _;obtain⟨h1,h2⟩:=hk.froz b hb hE;exact .fp cs b off h2 (cN hb hk.size) g (fun j y hy=>by rw[cell_of_heap (a:=⟨b,_,none⟩) h1];exact hg j y hy) (fun j y hy=>ih j y hy (fun _ _ h=>h))
 |op id off b base hι=>intro ι' hm;exact .op id off b base (hm _ _ hι)
 |ep id sz i off b base hι=>intro ι' hm;exact .ep id sz i off b base (hm _ _ hι)
 |osz id sz off a=>intro ι' hm;exact .osz id sz off a
 |os id sz off len b base cap hι hc h=>
  intro ι' hm;exact .os id sz off len b base cap (hm _ _ hι) hc (fun j hj=>⟨hk.some _ (h j hj).1,by rw[hk.mark _ (h j hj).1];exact(h j hj).2⟩)
 |fn f fs cs F C hF hC h1 h2 ih1 ih2=>
  intro ι' hm;exact .fn f fs cs F C hF hC (fun i x y hx hy=>ih1 i x y hx hy hm) (fun i x y hx hy=>ih2 i x y hx hy hm)
 |tup cs c hs h ih=>intro ι' hι;exact .tup cs c hs (fun i x y hx hy=>ih i x y hx hy hι)
 |junk x=>intro ι' _;exact .junk x
 |mp id b base hι=>intro ι' hm;exact .mp id b base (hm _ _ hι)
 |dfr id s x=>intro ι' _;exact .dfr id s x
theorem wU{E:Nat->Prop}{w:World}{ι:Inj}(x:Value):Rel E w ι (ofValue x) x:=by
 unfold ofValue;split
 ·rename_i cs;refine .agg _ _ zx (fun i x y hx hy=>?_);have hy':cs.toList[i]? =some y:=by simpa using hy
  simp only[bX,hy',dG,bN]at hx;subst hx;split
  ·exact .nils
  ·exact .v _
 ·exact .nils
 ·rename_i f fs cs;split
  ·rename_i h;simp only[aJ,Array.isEmpty_iff]at h;obtain⟨rfl,rfl⟩:=h;exact .fn f [] [] #[] #[] rfl rfl (fun i x y hx _=>by simp at hx) (fun i x y hx _=>by simp at hx)
  ·exact .v _
 ·exact .v _
def get{α:Type}:List (Nat×α)->Nat->Option α
 |[],_=>none
 |(k,x)::r,i=>match Nat.beq k i with
  |true=>some x
  |false=>get r i
theorem jA{α:Type}(k:Nat)(x:α)(r:List (Nat×α))(i:Nat):get ((k,x)::r) i=if k=i then some x else get r i:=by
 simp only[get];by_cases h:k=i
 ·subst h;simp
 ·have:Nat.beq k i=false:=by
   cases hb:Nat.beq k i with
   |false=>rfl
   |true=>exact absurd (aY hb) h
  simp[this,h]
def GlobOk(E:Nat->Prop)(w:World):Prop:=∀g cs,get aBP g=some cs->¬E g/\g<w.heap.size/\∀(j:Nat) y,cs[j]? =some y->w.cell? ⟨g,j,none⟩=some y
theorem GlobOk.keep{E E':Nat->Prop}{w w':World}(hk:Keeps E w E' w')(h:GlobOk E w):GlobOk E' w':=fun g cs hg=>by
 obtain⟨h1,h2,h3⟩:=h g cs hg;obtain⟨k1,k2⟩:=hk.froz g h2 h1;exact⟨k2,cN h2 hk.size,fun j y hy=>by rw[cell_of_heap (a:=⟨g,j,none⟩) k1];exact h3 j y hy⟩
theorem GlobOk.rel{E:Nat->Prop}{w:World}{ι:Inj}(h:GlobOk E w){g:Nat}{cs:List Value}(hg:get aBP g=some cs):Rel E w ι (.fp (cs.map .v)) (.pointer (some ⟨g,0,none⟩)):=by
 obtain⟨h1,h2,h3⟩:=h g cs hg;refine .fp _ g 0 h1 h2 (fun j=>(cs[j]?).getD default) (fun j y hy=>?_) (fun j y hy=>?_)
 ·rw[bX,bW]at hy;obtain⟨x,hx,rfl⟩:=hy;rw[bM,h3 j x hx,hx];rfl
 ·rw[bX,bW]at hy;obtain⟨x,hx,rfl⟩:=hy;rw[hx];exact .v _
inductive Spc where
 |m (f:Value->Option AV)
 |mt (f:Value->Option AV) (τ:Array MapEntry×Nat)
 |it (mid:Option Nat) (τ:Array MapEntry×Nat) (L:List ByteArray) (last:Option ByteArray)
inductive Obj where
 |box (cs:List AV)
 |arr (sz:Nat) (xs:List AV)
 |spc (s:Spc)
 deriving Inhabited
abbrev Obj.map(f:Value->Option AV):Obj:=.spc (.m f)
abbrev Hp:=List (Nat×Obj)
structure MapIs (E:Nat->Prop) (w:World) (f:Value->Option AV) (es:Array MapEntry) (c:Nat):Prop where
 ent:∀e,e∈es.toList->MapKept.IsKey .string e.key/\∃x,f e.key=some x/\Rel E w jR x e.val
 dom:∀k x,f k=some x->∃e,e∈es.toList/\e.key=k
 st:MapKept.Stamped es c
theorem MapIs.keep{E E':Nat->Prop}{w w':World}(hk:Keeps E w E' w'){f:Value->Option AV}{es:Array MapEntry}{c:Nat}(h:MapIs E w f es c):MapIs E' w' f es c:=
 ⟨fun e he=>⟨(h.ent e he).1,by obtain⟨x,h1,h2⟩:=(h.ent e he).2;exact⟨x,h1,h2.keep hk (fun _ _ h=>h)⟩⟩,h.dom,h.st⟩
structure ItIs (ι:Inj) (base:Nat) (mid:Option Nat) (τ:Array MapEntry×Nat) (L:List ByteArray) (last:Option ByteArray) (o:Go.Obj):Prop where
 b0:base=0
 it:∃bm since seen c0,o=.mapIter (some bm) since seen c0/\(∀id,mid=some id->∃bb,ι id=some (some (bm,bb)))/\(∀x∈τ.1.toList,x.born<since)/\(since<=c0/\since<=τ.2)/\(leftOf τ.1 seen).toList.map (·.key)=L.map Value.string/\
  ∀k,last=some k->∃(e:MapEntry) (seen':Array Nat),e∈τ.1.toList/\e.key=.string k/\seen=seen'.push e.born/\c0=τ.2
def SpcIs(E:Nat->Prop)(w:World)(ι:Inj)(base:Nat):Spc->Go.Obj->Prop
 |.m f,o=>∃es c,o=.map es c/\MapIs E w f es c
 |.mt f τ,o=>o=.map τ.1 τ.2/\MapIs E w f τ.1 τ.2
 |.it mid τ L l,o=>ItIs ι base mid τ L l o
theorem SpcIs.keep{E E':Nat->Prop}{w w':World}{ι ι':Inj}{base:Nat}(hk:Keeps E w E' w')(hι:∀id q,ι id=some q->ι' id=some q){s:Spc}{o:Go.Obj}(h:SpcIs E w ι base s o):SpcIs E' w' ι' base s o:=by
 cases s with
 |m f=>obtain⟨es,c,h1,h2⟩:=h;exact⟨es,c,h1,h2.keep hk⟩
 |mt f τ=>exact⟨h.1,h.2.keep hk⟩
 |it mid τ L l=>
  obtain⟨h0,bm,since,seen,c0,h1,h2,h3⟩:=h;exact⟨h0,bm,since,seen,c0,h1,fun id e=>by obtain⟨bb,hb⟩:=h2 id e;exact⟨bb,hι _ _ hb⟩,h3⟩
def ORel(E:Nat->Prop)(w:World)(ι:Inj)(id:Nat):Obj->Prop
 |.box cs=>∃b base,ι id=some (some (b,base))/\E b/\b<w.heap.size/\∀(i:Nat) c,cs[i]? =some c->∃u,w.cell? ⟨b,base+i,none⟩=some u/\w.frozen? ⟨b,base+i,none⟩=false/\Rel E w ι c u
 |.arr sz xs=>(ι id=some none/\xs=[])\/∃b base,ι id=some (some (b,base))/\E b/\b<w.heap.size/\
   (∀(i:Nat) x,xs[i]? =some x->x.cells.length=sz)/\
   ∀(i:Nat) x (j:Nat) c,xs[i]? =some x->x.cells[j]? =some c->∃u,w.cell? ⟨b,base+i*sz+j,none⟩=some u/\w.frozen? ⟨b,base+i*sz+j,none⟩=false/\Rel E w jR c u
 |.spc s=>∃b base,ι id=some (some (b,base))/\E b/\b<w.heap.size/\∃o,w.heap[b]? =some o/\SpcIs E w ι base s o
structure Rep (ι:Inj) (E:Nat->Prop) (w:World) (n:Nat) (h:Hp):Prop where
 fresh:∀id,n<=id->ι id=none
 obj:∀id o,get h id=some o->ORel E w ι id o
 sep:∀id id' o o' b base base',get h id=some o->get h id'=some o'->ι id=some (some (b,base))->ι id'=some (some (b,base'))->id=id'
 bound:∀b,E b->b<w.heap.size
 glob:GlobOk E w
def Own(ι:Inj)(h:Hp)(b:Nat):Prop:=∃id o base,get h id=some o/\ι id=some (some (b,base))
theorem Rep.own_E{ι:Inj}{E:Nat->Prop}{w:World}{n:Nat}{h:Hp}(r:Rep ι E w n h){b:Nat}(ho:Own ι h b):E b:=by
 obtain⟨id,o,base,hg,hι⟩:=ho;have:=r.obj id o hg;cases o with
 |box cs=>obtain⟨b',base',h1,h2,_⟩:=this;rw[hι]at h1;cases h1;exact h2
 |arr sz xs=>
  rcases this with⟨h1,_⟩|⟨b',base',h1,h2,_⟩
  ·rw[hι]at h1;cases h1
  ·rw[hι]at h1;cases h1;exact h2
 |spc s=>obtain⟨b',base',h1,h2,_⟩:=this;rw[hι]at h1;cases h1;exact h2
structure Ext (ι:Inj) (h:Hp) (E:Nat->Prop) (w:World) (ι':Inj) (h':Hp) (E':Nat->Prop) (w':World):Prop where
 os:w'.os=w.os
 tape:w'.tape=w.tape
 output:w'.output=w.output
 size:w.heap.size<=w'.heap.size
 inj:∀id p,ι id=some p->ι' id=some p
 old:∀b,b<w.heap.size->¬Own ι h b->w'.heap[b]? =w.heap[b]? /\(E' b↔E b)
 own:∀b,b<w.heap.size->Own ι' h' b->Own ι h b
 some:∀a,(w.cell? a).isSome=true->(w'.cell? a).isSome=true
 mark:∀a,a.block<w.heap.size->w'.frozen? a=w.frozen? a
 drawn:w.drawn<=w'.drawn
theorem lt_of_cell{w:World}{a:Addr}(h:(w.cell? a).isSome=true):a.block<w.heap.size:=by
 rcases aD a.block w.heap.size with h1|h1
 ·exact h1
 ·simp[World.cell?,fE h1]at h
theorem Ext.refl{ι:Inj}{h:Hp}{E:Nat->Prop}{w:World}:Ext ι h E w ι h E w:=
 ⟨rfl,rfl,rfl,aO _,fun _ _ h=>h,fun _ _ _=>⟨rfl,Iff.rfl⟩,fun _ _ h=>h,fun _ h=>h,fun _ _=>rfl,aO _⟩
theorem Ext.trans{ι ι' ι'':Inj}{h h' h'':Hp}{E E' E'':Nat->Prop}{w w' w'':World}(x:Ext ι h E w ι' h' E' w')(y:Ext ι' h' E' w' ι'' h'' E'' w''):Ext ι h E w ι'' h'' E'' w'' where
 os:=y.os.trans x.os
 tape:=y.tape.trans x.tape
 output:=y.output.trans x.output
 size:=bC x.size y.size
 inj:=fun id p hp=>y.inj _ _ (x.inj _ _ hp)
 old:=fun b hb hn=>by
  obtain⟨h1,h2⟩:=x.old b hb hn;obtain⟨h3,h4⟩:=y.old b (cN hb x.size) (fun ho=>hn (x.own b hb ho));exact⟨h3.trans h1,h4.trans h2⟩
 own:=fun b hb ho=>x.own b hb (y.own b (cN hb x.size) ho)
 some:=fun a ha=>y.some a (x.some a ha)
 mark:=fun a ha=>(y.mark a (cN ha x.size)).trans (x.mark a ha)
 drawn:=bC x.drawn y.drawn
def Same(w w2:World):Prop:=∀b,b<w.heap.size->w2.heap[b]? =w.heap[b]?
theorem Same.refl{w:World}:Same w w:=fun _ _=>rfl
theorem Same.trans{w w2 w3:World}(h1:Same w w2)(h2:Same w2 w3):Same w w3:=fun b hb=>by
 have e:=h1 b hb;have hlt:b<w2.heap.size:=by
  rcases aD b w2.heap.size with h|h
  ·exact h
  ·rw[fE h,bL hb]at e;cases e
 rw[h2 b hlt,e]
theorem Same.cell{w w2:World}(hs:Same w w2){a:Addr}{v:Value}(h:w.cell? a=some v):w2.cell? a=some v:=by
 rw[cell_of_heap (hs a.block (lt_of_cell (by rw[h];rfl)))];exact h
theorem Ext.keeps{ι ι':Inj}{h h':Hp}{E E':Nat->Prop}{w w':World}{n:Nat}(x:Ext ι h E w ι' h' E' w')(r:Rep ι E w n h):Keeps E w E' w' where
 size:=x.size
 froz:=fun b hb hE=>by
  obtain⟨h1,h2⟩:=x.old b hb (fun ho=>hE (r.own_E ho));exact⟨h1,fun h=>hE (h2.1 h)⟩
 some:=x.some
 mark:=fun a ha=>x.mark a (lt_of_cell ha)
theorem Ext.rel{ι ι':Inj}{h h':Hp}{E E':Nat->Prop}{w w':World}{n:Nat}(x:Ext ι h E w ι' h' E' w')(r:Rep ι E w n h){a:AV}{y:Value}(hr:Rel E w ι a y):Rel E' w' ι' a y:=
 hr.keep (x.keeps r) x.inj
/-! ### Obligations: names at which the evaluation stops -/
structure Wr (k:IntKind) (e:Int) (K:Int->Prop):Prop where
 out:K (k.wrap e)
structure Br (b:Bool) (T F:Prop):Prop where
 out:(b=true->T)/\(b=false->F)
structure Ix (xs:List AV) (i:Nat) (K:AV->Prop):Prop where
 out:∃x,xs[i]? =some x/\K x
structure In (i:Int) (len:Nat) (K:Nat->Prop):Prop where
 out:∃j:Nat,i=j/\j<len/\K j
structure Ob (p K:Prop):Prop where
 out:p/\K
structure Sl (xs:List AV) (off len:Nat) (K:List AV->Prop):Prop where
 out:off+len<=xs.length/\K ((xs.drop off).take len)
structure Sb (lo hi:Int) (m:Nat) (K:Nat->Nat->Prop):Prop where
 out:∃l h:Nat,lo=l/\hi=h/\l<=h/\h<=m/\K l h
def Fb:List AV->Option (List Value)
 |[]=>some []
 |.v x::r=>(match Fb r with
  |some vs=>some (x::vs)
  |none=>none)
 |.sb b::r=>(match Fb r with
  |some vs=>some (.bool b::vs)
  |none=>none)
 |_::_=>none
structure EqV (P:Program) (t:TypeId) (xs ys:List AV) (K:Bool->Prop):Prop where
 out:∃(vs us:List Value) (b:Bool),Fb xs=some vs/\Fb ys=some us/\P.eqGuardType P.depth t=false/\(∀w,(Op.equalIn 10000 t (.agg vs.toArray) (.agg us.toArray)).run P w=.ok b w)/\K b
theorem Wr.intro{k:IntKind}{e r:Int}{K:Int->Prop}(h:k.wrap e=r)(hk:K r):Wr k e K:=⟨by rw[h];exact hk⟩
theorem Wr.elim{k:IntKind}{e:Int}{K:Int->Prop}(h:Wr k e K):K (k.wrap e):=h.out
theorem Br.intro{b:Bool}{T F:Prop}(h1:b=true->T)(h2:b=false->F):Br b T F:=⟨⟨h1,h2⟩⟩
theorem Br.elim{b:Bool}{T F:Prop}(h:Br b T F):(b=true->T)/\(b=false->F):=h.out
theorem Ix.intro{xs:List AV}{i:Nat}{K:AV->Prop}{x:AV}(h:xs[i]? =some x)(hk:K x):Ix xs i K:=⟨⟨x,h,hk⟩⟩
abbrev iC:=@Ix.intro
theorem Ix.elim{xs:List AV}{i:Nat}{K:AV->Prop}(h:Ix xs i K):∃x,xs[i]? =some x/\K x:=h.out
theorem In.intro{i:Int}{len:Nat}{K:Nat->Prop}(j:Nat)(h:i=j)(hl:j<len)(hk:K j):In i len K:=⟨⟨j,h,hl,hk⟩⟩
abbrev iB:=@In.intro
theorem In.elim{i:Int}{len:Nat}{K:Nat->Prop}(h:In i len K):∃j:Nat,i=j/\j<len/\K j:=h.out
theorem Ob.intro{p K:Prop}(h:p)(hk:K):Ob p K:=⟨⟨h,hk⟩⟩
theorem Ob.elim{p K:Prop}(h:Ob p K):p/\K:=h.out
theorem Sl.intro{xs ys:List AV}{off len:Nat}{K:List AV->Prop}(h:off+len<=xs.length)(he:(xs.drop off).take len=ys)(hk:K ys):Sl xs off len K:=⟨h,by rw[he];exact hk⟩
abbrev iE:=@Sl.intro
theorem Sl.elim{xs:List AV}{off len:Nat}{K:List AV->Prop}(h:Sl xs off len K):off+len<=xs.length/\K ((xs.drop off).take len):=h.out
theorem Sb.intro{lo hi:Int}{m:Nat}{K:Nat->Nat->Prop}(l h:Nat)(h1:lo=l)(h2:hi=h)(h3:l<=h)(h4:h<=m)(hk:K l h):Sb lo hi m K:=⟨⟨l,h,h1,h2,h3,h4,hk⟩⟩
abbrev iF:=@Sb.intro
theorem Sb.elim{lo hi:Int}{m:Nat}{K:Nat->Nat->Prop}(h:Sb lo hi m K):∃l h:Nat,lo=l/\hi=h/\l<=h/\h<=m/\K l h:=h.out
theorem EqV.elim{P:Program}{t:TypeId}{xs ys:List AV}{K:Bool->Prop}(h:EqV P t xs ys K):∃(vs us:List Value) (b:Bool),Fb xs=some vs/\Fb ys=some us/\P.eqGuardType P.depth t=false/\(∀w,(Op.equalIn 10000 t (.agg vs.toArray) (.agg us.toArray)).run P w=.ok b w)/\K b:=h.out
theorem EqV.intro{P:Program}{t:TypeId}{xs ys:List AV}{K:Bool->Prop}(vs us:List Value)(b:Bool)(h1:Fb xs=some vs)(h2:Fb ys=some us)(h3:P.eqGuardType P.depth t=false)(h4:∀w,(Op.equalIn 10000 t (.agg vs.toArray) (.agg us.toArray)).run P w=.ok b w)(hk:K b):EqV P t xs ys K:=⟨⟨vs,us,b,h1,h2,h3,h4,hk⟩⟩
/-! ### Evaluation -/
def tsz(P:Program)(t:TypeId):Option Nat:=(P.info? t).map (·.size)
def K7(P:Program)(t:TypeId):Option Bool:=match P.underlying t with
 |some (.struct _)=>some true
 |some (.array _ _)=>some true
 |some _=>some false
 |none=>none
def AV.toB:AV->Option Bool
 |.sb b=>some b
 |.v (.bool b)=>some b
 |_=>none
def kEq:IntKind->IntKind->Bool
 |.i8,.i8|.i16,.i16|.i32,.i32|.i64,.i64|.u8,.u8|.u16,.u16|.u32,.u32|.u64,.u64=>true
 |_,_=>false
theorem T8{a b:IntKind}(h:kEq a b=true):a=b:=by cases a<;>cases b<;>first|rfl|simp[kEq]at h
def oM(op:BinOp)(k:IntKind)(a b:Int):Int:=
 let x:=BitVec.ofInt k.bits a
 let y:=BitVec.ofInt k.bits b
 match op with
 |.and=>k.wrap (x&&&y).toNat
 |.or=>k.wrap (x|||y).toNat
 |.xor=>k.wrap (x^^^y).toNat
 |_=>k.wrap (x&&& ~~~y).toNat
def aOD(op:BinOp)(k:IntKind)(a:Int)(k':IntKind)(b:Int)(K:AV->Prop):Prop:=
 match op with
 |.shl=>Ob (0<=b) (Wr k (a*2^(min b.toNat k.bits)) fun r=>K (.v (.int k r)))
 |.shr=>Ob (0<=b) (K (.v (.int k (a.fdiv (2^(min b.toNat k.bits))))))
 |_=>match kEq k k' with
  |false=>False
  |true=>match op with
   |.add=>Wr k (a+b) fun r=>K (.v (.int k r))
   |.sub=>Wr k (a-b) fun r=>K (.v (.int k r))
   |.mul=>Wr k (a*b) fun r=>K (.v (.int k r))
   |.quo=>Ob (b≠0) (Wr k (a.tdiv b) fun r=>K (.v (.int k r)))
   |.rem=>Ob (b≠0) (K (.v (.int k (a.tmod b))))
   |.and|.or|.xor|.andNot=>K (.v (.int k (oM op k a b)))
   |.eql=>K (.sb (decide (a=b)))
   |.neq=>K (.sb (!decide (a=b)))
   |.lss=>K (.sb (decide (a<b)))
   |.leq=>K (.sb (decide (a<=b)))
   |.gtr=>K (.sb (decide (b<a)))
   |.geq=>K (.sb (decide (b<=a)))
   |_=>False
def aRr(op:BinOp)(s t:ByteArray)(K:AV->Prop):Prop:=
 match op with
 |.eql=>K (.sb (s.toList==t.toList))
 |.neq=>K (.sb (!(s.toList==t.toList)))
 |.lss=>K (.sb (Op.bytesLess s.toList t.toList))
 |.leq=>K (.sb (Op.bytesLess s.toList t.toList||s.toList==t.toList))
 |.gtr=>K (.sb (!(Op.bytesLess s.toList t.toList||s.toList==t.toList)))
 |.geq=>K (.sb (!Op.bytesLess s.toList t.toList))
 |.add=>Ob (((s.size+t.size:Nat):Int)<=9223372036854775807) (K (.v (.string (s++t))))
 |_=>False
def aAq(P:Program)(t:TypeId)(op:BinOp)(a b:Bool)(K:AV->Prop):Prop:=
 match P.underlying t with
 |some .bool=>match op with
  |.eql=>K (.sb (a==b))
  |.neq=>K (.sb (!(a==b)))
  |_=>False
 |_=>False
def Ur(P:Program)(t:TypeId)(op:BinOp)(b:Bool)(K:AV->Prop):Prop:=
 match P.underlying t with
 |some (.slice _)=>match op with
  |.eql=>K (.sb b)
  |.neq=>K (.sb (!b))
  |_=>False
 |_=>False
def aLd(P:Program)(op:BinOp)(t:TypeId)(X Y:AV)(K:AV->Prop):Prop:=
 match X,Y with
 |.v (.int k a),.v (.int k' b)=>aOD op k a k' b K
 |.v (.string s),.v (.string u)=>aRr op s u K
 |.agg xs,.agg ys=>(match op with
  |.eql=>EqV P t xs ys fun b=>K (.sb b)
  |.neq=>EqV P t xs ys fun b=>K (.sb (!b))
  |_=>False)
 |.nils,.nils=>Ur P t op true K
 |.lst xs,.nils=>∀b:Bool,(b=true->xs=[])->Ur P t op b K
 |.os _ _ _ len,.nils=>∀b:Bool,(b=true->len=0)->Ur P t op b K
 |.fp _,.v (.pointer none)=>(match P.underlying t with
  |some (.pointer _)=>(match op with
   |.eql=>K (.sb false)
   |.neq=>K (.sb true)
   |_=>False)
  |_=>False)
 |.op _ _,.v (.pointer none)=>(match P.underlying t with
  |some (.pointer _)=>(match op with
   |.eql=>K (.sb false)
   |.neq=>K (.sb true)
   |_=>False)
  |_=>False)
 |X,Y=>match X.toB,Y.toB with
  |some a,some b=>aAq P t op a b K
  |_,_=>False
/-! ### What forces the evaluation of a state's parts (they are the identity) -/
def nB(n:Nat)(K:Nat->Prop):Prop:=
 match Nat.beq n 0 with|true=>K 0|false=>match Nat.beq n 1 with|true=>K 1|false=>match Nat.beq n 2 with|true=>K 2|false=>match Nat.beq n 3 with|true=>K 3|false=>match Nat.beq n 4 with|true=>K 4|false=>match Nat.beq n 5 with|true=>K 5|false=>match Nat.beq n 6 with|true=>K 6|false=>match Nat.beq n 7 with|true=>K 7|false=>match Nat.beq n 8 with|true=>K 8|false=>match Nat.beq n 9 with|true=>K 9|false=>match Nat.beq n 10 with|true=>K 10|false=>match Nat.beq n 11 with|true=>K 11|false=>match Nat.beq n 12 with|true=>K 12|false=>match Nat.beq n 13 with|true=>K 13|false=>match Nat.beq n 14 with|true=>K 14|false=>match Nat.beq n 15 with|true=>K 15|false=>match Nat.beq n 16 with|true=>K 16|false=>match Nat.beq n 17 with|true=>K 17|false=>match Nat.beq n 18 with|true=>K 18|false=>match Nat.beq n 19 with|true=>K 19|false=>match Nat.beq n 20 with|true=>K 20|false=>match Nat.beq n 21 with|true=>K 21|false=>match Nat.beq n 22 with|true=>K 22|false=>match Nat.beq n 23 with|true=>K 23|false=>K n
theorem mK(n:Nat)(K:Nat->Prop):nB n K=K n:=by
 unfold nB;repeat' (split;(rename_i h;rw[aY h]))
 rfl
def aMx(x:AV)(K:AV->Prop):Prop:=
 match x with
 |.op id off=>nB id fun id=>nB off fun off=>K (.op id off)
 |.ep id sz i off=>nB id fun id=>nB sz fun sz=>nB off fun off=>K (.ep id sz i off)
 |.os id sz off len=>nB id fun id=>nB sz fun sz=>K (.os id sz off len)
 |.mp id=>nB id fun id=>K (.mp id)
 |.dfr id s=>nB id fun id=>K (.dfr id s)
 |x=>K x
theorem aFO(x:AV)(K:AV->Prop):aMx x K=K x:=by cases x<;>simp only[aMx,mK]
def Qz:List AV->(List AV->Prop)->Prop
 |[],K=>K []
 |x::xs,K=>aMx x fun y=>Qz xs fun ys=>K (y::ys)
theorem Q0:∀(xs:List AV) (K:List AV->Prop),Qz xs K=K xs
 |[],K=>rfl
 |x::xs,K=>by simp only[Qz,aFO,Q0 xs]
def frc(x:AV)(K:AV->Prop):Prop:=
 match x with
 |.v y=>K (.v y)
 |.sb b=>K (.sb b)
 |.agg cs=>K (.agg cs)
 |.nils=>K .nils
 |.lst xs=>K (.lst xs)
 |.fp cs=>K (.fp cs)
 |.op id off=>nB id fun id=>nB off fun off=>K (.op id off)
 |.ep id sz i off=>nB id fun id=>nB sz fun sz=>nB off fun off=>K (.ep id sz i off)
 |.os id sz off len=>nB id fun id=>nB sz fun sz=>K (.os id sz off len)
 |.fn f a b=>Qz a fun a=>Qz b fun b=>K (.fn f a b)
 |.tup vs=>K (.tup vs)
 |.junk=>K .junk
 |.mp id=>nB id fun id=>K (.mp id)
 |.dfr id s=>nB id fun id=>K (.dfr id s)
theorem Fi(x:AV)(K:AV->Prop):frc x K=K x:=by cases x<;>simp only[frc,mK,Q0]
def rD:List AV->(List AV->Prop)->Prop
 |[],K=>K []
 |x::xs,K=>frc x fun y=>rD xs fun ys=>K (y::ys)
theorem nA:∀(xs:List AV) (K:List AV->Prop),rD xs K=K xs
 |[],K=>rfl
 |x::xs,K=>by simp only[rD,Fi,nA xs]
def aFP(x:AV)(K:AV->Prop):Prop:=
 match x with
 |.agg cs=>rD cs fun ds=>K (.agg ds)
 |.fn f a b=>rD a fun a'=>rD b fun b'=>K (.fn f a' b')
 |x=>frc x K
theorem Wi(x:AV)(K:AV->Prop):aFP x K=K x:=by cases x<;>simp only[aFP,Fi,nA]
def Dt:List AV->(List AV->Prop)->Prop
 |[],K=>K []
 |x::xs,K=>aFP x fun y=>Dt xs fun ys=>K (y::ys)
theorem wB:∀(xs:List AV) (K:List AV->Prop),Dt xs K=K xs
 |[],K=>rfl
 |x::xs,K=>by simp only[Dt,Wi,wB xs]
def aBE(x:AV)(K:AV->Prop):Prop:=
 match x with
 |.tup vs=>Dt vs fun ws=>K (.tup ws)
 |x=>aFP x K
theorem Oi(x:AV)(K:AV->Prop):aBE x K=K x:=by cases x<;>simp only[aBE,Wi,wB]
def Jb:List Nat->(List Nat->Prop)->Prop
 |[],K=>K []
 |n::r,K=>nB n fun n=>Jb r fun r'=>K (n::r')
theorem wC:∀(l:List Nat) (K:List Nat->Prop),Jb l K=K l
 |[],K=>rfl
 |n::r,K=>by simp only[Jb,mK,wC r]
def nb1(x:AV):AV:=match x with
 |.v (.bool b)=>.sb b
 |x=>x
def Rq:List AV->List AV
 |[]=>[]
 |x::xs=>nb1 x::Rq xs
def nbA(x:AV):AV:=match x with
 |.agg cs=>.agg (Rq cs)
 |x=>nb1 x
def ag1(x:AV):AV:=match x with
 |.nils=>.lst []
 |x=>x
def P0:List AV->List AV
 |[]=>[]
 |x::xs=>ag1 x::P0 xs
def agA(x:AV):AV:=match x with
 |.agg cs=>.agg (P0 cs)
 |x=>ag1 x
def agL:List AV->List AV
 |[]=>[]
 |x::xs=>agA x::agL xs
def mk(agg:Option Bool)(n:Nat)(cs:List AV)(K:AV->Prop):Prop:=
 match agg with
 |none=>False
 |some true=>match Nat.ble n cs.length with
  |true=>rD (cs.take n) fun ds=>K (.agg ds)
  |false=>False
 |some false=>match cs with
  |c::_=>K c
  |[]=>False
def ldQ(P:Program)(h:Hp)(t:TypeId)(X:AV)(K:AV->Prop):Prop:=
 match tsz P t with
 |none=>False
 |some n=>match X with
  |.fp cs=>mk (K7 P t) n cs K
  |.op id off=>(match get h id with
   |some (.box cs)=>mk (K7 P t) n (cs.drop off) K
   |_=>False)
  |.ep id sz i off=>(match get h id with
   |some (.arr sz' xs)=>(match Nat.beq sz sz' with
    |true=>Ix xs i fun e=>mk (K7 P t) n (e.cells.drop off) K
    |false=>False)
   |some (.box cs)=>mk (K7 P t) n (cs.drop (i*sz+off)) K
   |_=>False)
  |_=>False
def Tr(P:Program)(s:TypeId)(f:Nat)(X:AV)(K:AV->Prop):Prop:=
 match P.underlying s with
 |some (.struct fs)=>(match fs[f]? with
  |some fd=>(match tsz P fd.type with
   |some (_+1)=>(match X with
    |.fp cs=>rD (cs.drop fd.offset) fun ds=>K (.fp ds)
    |.op id off=>K (.op id (off+fd.offset))
    |.ep id sz i off=>K (.ep id sz i (off+fd.offset))
    |_=>False)
   |_=>False)
  |none=>False)
 |_=>False
def Xl(P:Program)(t:TypeId)(off:Nat)(cs:List AV)(K:AV->Prop):Prop:=
 match K7 P t with
 |none=>False
 |some true=>(match tsz P t with
  |some n=>rD ((cs.drop off).take n) fun ds=>K (.agg ds)
  |none=>False)
 |some false=>match cs.drop off with
  |c::_=>K c
  |[]=>False
def aOy(P:Program)(t:TypeId)(X I:AV)(K:AV->Prop):Prop:=
 match I with
 |.v (.int k i)=>(match P.underlying t with
  |some (.slice e)=>(match tsz P e with
   |some n=>(match X with
    |.lst xs=>In i xs.length fun j=>Ix xs j fun x=>(match Nat.beq x.cells.length n with
     |true=>rD x.cells fun ds=>K (.fp ds)
     |false=>False)
    |.os id sz off len=>(match Nat.beq sz n with
     |true=>In i len fun j=>K (.ep id sz (off+j) 0)
     |false=>False)
    |_=>False)
   |none=>False)
  |some (.array len e)=>(match tsz P e with
   |some n=>In i len fun j=>(match X with
    |.fp cs=>rD (cs.drop (j*n)) fun ds=>K (.fp ds)
    |.op id off=>K (.op id (off+j*n))
    |.ep id sz a off=>K (.ep id sz a (off+j*n))
    |_=>False)
   |none=>False)
  |_=>False)
 |_=>False
def T3(P:Program)(t:TypeId)(X I:AV)(K:AV->Prop):Prop:=
 match I with
 |.v (.int k i)=>(match P.underlying t with
  |some .string=>(match X with
   |.v (.string s)=>In i s.size fun j=>∃b,s[j]? =some b/\K (.v (.int .u8 (b.toNat:Int)))
   |_=>False)
  |some (.array len e)=>(match X with
   |.agg cs=>(match tsz P e with
    |some n=>In i len fun j=>Xl P e (j*n) cs K
    |none=>False)
   |_=>False)
  |_=>False)
 |_=>False
def aOU(P:Program)(t:TypeId)(X:AV)(K:AV->Prop):Prop:=
 match P.underlying t with
 |some (.slice _)=>(match X with
  |.lst xs=>K (.v (.int .i64 (xs.length:Int)))
  |.os _ _ _ len=>K (.v (.int .i64 (len:Int)))
  |.nils=>K (.v (.int .i64 0))
  |_=>False)
 |some .string=>(match X with
  |.v (.string s)=>K (.v (.int .i64 (s.size:Int)))
  |_=>False)
 |some (.array n _)=>K (.v (.int .i64 (n:Int)))
 |_=>False
def mmQ(mx:Bool):List AV->(AV->Prop)->Prop
 |[.v (.int k a),.v (.int k' b)],K=>(match kEq k k' with
  |true=>(match mx with
   |true=>K (.v (.int k (max a b)))
   |false=>K (.v (.int k (min a b))))
  |false=>False)
 |_,_=>False
def cvQ(P:Program)(src dst:TypeId)(X:AV)(K:AV->Prop):Prop:=
 match P.underlying src,P.underlying dst with
 |some (.int _),some (.int k)=>(match X with
  |.v (.int _ n)=>Wr k n fun r=>K (.v (.int k r))
  |_=>False)
 |some .string,some .string=>(match X with
  |.v (.string s)=>K (.v (.string s))
  |_=>False)
 |_,_=>False
def unQ(op:UnOp)(X:AV)(K:AV->Prop):Prop:=
 match op with
 |.neg=>(match X with
  |.v (.int k n)=>Wr k (0-n) fun r=>K (.v (.int k r))
  |_=>False)
 |.not=>(match X with
  |.v (.bool true)=>K (.v (.bool false))
  |.v (.bool false)=>K (.v (.bool true))
  |.sb b=>K (.sb (!b))
  |_=>False)
 |.xor=>(match X with
  |.v (.int k n)=>K (.v (.int k (oM .xor k (if k.signed then-1 else k.max) n)))
  |_=>False)
 |_=>False
def setAt(cs:List AV)(off:Nat)(vs:List AV):List AV:=cs.take off++(vs++cs.drop (off+vs.length))
def AV.solid:AV->Bool
 |.junk=>false
 |.dfr _ _=>false
 |.v (.agg _)=>false
 |_=>true
def Ly(place:Nat->Option (Nat×Nat))(cs:List AV):List (Nat×AV)->Option (List AV)
 |[]=>some cs
 |(i,x)::rest=>match place i with
  |none=>none
  |some (off,size)=>match x.solid&&(Nat.beq x.cells.length size&&Nat.ble (off+x.cells.length) cs.length)with
   |false=>none
   |true=>Ly place (setAt cs off x.cells) rest
def qK(P:Program)(t:TypeId):Option (List AV):=
 match P.info? t with
 |some i=>(match i.zero with
  |some z=>some (nbA (ofValue z)).cells
  |none=>none)
 |none=>none
def placesOf(P:Program):List Field->Option (List (Nat×Nat))
 |[]=>some []
 |f::fs=>match tsz P f.type,placesOf P fs with
  |some n,some r=>some ((f.offset,n)::r)
  |_,_=>none
def aLe(P:Program)(t:TypeId)(parts:List (Nat×AV))(K:AV->Prop):Prop:=
 match qK P t with
 |none=>False
 |some z=>match P.underlying t with
  |some (.struct fs)=>(match placesOf P fs.toList with
   |some ps=>(match Ly (fun i=>ps[i]?) z parts with
    |some cs=>rD cs fun ds=>K (.agg ds)
    |none=>False)
   |none=>False)
  |some (.array _ e)=>(match tsz P e with
   |some n=>(match Ly (fun i=>some (i*n,n)) z parts with
    |some cs=>rD cs fun ds=>K (.agg ds)
    |none=>False)
   |none=>False)
  |_=>False
def bnd(d:Int):Option AV->Option Int
 |none=>some d
 |some (.v (.int _ l))=>some l
 |_=>none
def AV.unit1:AV->Bool
 |.agg _=>false
 |_=>true
theorem AV.unit1_cells{x:AV}(h:x.unit1=true):x.cells=[x]:=by
 cases x<;>first|rfl|cases h
def U9(P:Program)(t:TypeId)(X:AV)(lo hi:Option AV)(K:AV->Prop):Prop:=
 match bnd 0 lo with
 |none=>False
 |some l=>match P.underlying t with
  |some (.slice e)=>(match tsz P e with
   |none=>False
   |some n=>match X with
    |.lst xs=>(match bnd (xs.length:Int) hi with
     |none=>False
     |some h=>Ob (∀x,x∈xs->x.cells.length=n) (Sb l h xs.length fun a b=>Sl xs a (b-a) fun ys=>K (.lst ys)))
    |.os id sz off len=>(match Nat.beq sz n with
     |false=>False
     |true=>(match bnd (len:Int) hi with
      |none=>False
      |some h=>Sb l h len fun a b=>K (.os id sz (off+a) (b-a))))
    |.nils=>(match bnd 0 hi with
     |none=>False
     |some h=>Sb l h 0 fun _ _=>K .nils)
    |_=>False)
  |some .string=>(match X with
   |.v (.string s)=>(match bnd (s.size:Int) hi with
    |none=>False
    |some h=>Sb l h s.size fun a b=>K (.v (.string (s.extract a b))))
   |_=>False)
  |some (.array len e)=>(match tsz P e with
   |some 1=>(match X with
    |.fp cs=>(match bnd (len:Int) hi with
     |none=>False
     |some h=>(match Nat.beq cs.length len&&cs.all AV.unit1 with
      |true=>Sb l h len fun a b=>Sl cs a (b-a) fun ys=>K (.lst ys)
      |false=>False))
    |_=>False)
   |_=>False)
  |_=>False
def Rd:Op->Bool
 |.load _ _=>true
 |_=>false
def qop(P:Program)(h:Hp)(ev:Operand->AV)(o:Op)(K:AV->Prop):Prop:=
 match o with
 |.move x=>K (ev x)
 |.assign x=>K (ev x)
 |.pick c a b=>(match ev c with
  |.v (.bool true)=>K (ev a)
  |.v (.bool false)=>K (ev b)
  |.sb c'=>Br c' (K (ev a)) (K (ev b))
  |_=>False)
 |.load t a=>ldQ P h t (ev a) K
 |.nilCheck x=>(match ev x with
  |.fp cs=>K (.fp cs)
  |.op id off=>K (.op id off)
  |.ep id sz i off=>K (.ep id sz i off)
  |_=>False)
 |.binOp op t x y _=>aLd P op t (ev x) (ev y) K
 |.unOp op _ x=>unQ op (ev x) K
 |.convert src dst x=>cvQ P src dst (ev x) K
 |.fieldAddr s x f=>Tr P s f (ev x) K
 |.field t x f=>(match P.underlying t with
  |some (.struct fs)=>(match fs[f]?,ev x with
   |some fd,.agg cs=>Xl P fd.type fd.offset cs K
   |_,_=>False)
  |_=>False)
 |.indexAddr t x i=>aOy P t (ev x) (ev i) K
 |.index t x i=>T3 P t (ev x) (ev i) K
 |.extract x i=>(match ev x with
  |.tup vs=>(match vs[i]? with
   |some y=>K y
   |none=>False)
  |_=>False)
 |.build t parts=>aLe P t (parts.toList.map fun p=>(p.1,nbA (ev p.2))) K
 |.makeFunc fn first cap=>K (.fn fn (first.toList.map ev) (cap.toList.map ev))
 |.slice t x lo hi mx=>(match mx with
  |none=>U9 P t (ev x) (lo.map ev) (hi.map ev) K
  |some _=>False)
 |.call c=>(match c.callee with
  |.builtin .len=>(match c.argTypes[0]?,c.args[0]? with
   |some t,some x=>aOU P t (ev x) K
   |_,_=>False)
  |.builtin .max=>mmQ true (c.args.toList.map ev) K
  |.builtin .min=>mmQ false (c.args.toList.map ev) K
  |_=>False)
 |_=>False
end Go.Vm
