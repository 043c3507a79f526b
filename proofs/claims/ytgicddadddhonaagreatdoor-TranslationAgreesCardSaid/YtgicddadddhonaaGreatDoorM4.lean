/- Lemmas. -/
import Derived.Test.YtgicddadddhonaaGreatDoorM3
set_option linter.unusedVariables false
set_option linter.unusedSimpArgs false
set_option maxRecDepth 100000
set_option maxHeartbeats 4000000
namespace Go.Vm
section
variable {P:Program} {E:Nat->Prop} {w:World} {ι:Inj} {n:Nat} {h:Hp}
theorem W9(r:Rep ι E w n h){cs:List AV}{c:Array Value}{t:TypeId}(hr:RL E w ι cs c):
  ∃ι' E',Rel E' (w.alloc (.cells c t)) ι' (.op n 0) (.pointer (some ⟨w.heap.size,0,none⟩))/\Rep ι' E' (w.alloc (.cells c t)) (n+1) ((n,.box cs)::h)/\Ext ι h E w ι' ((n,.box cs)::h) E' (w.alloc (.cells c t)):=by
 have ho:ORel (He E w) (w.alloc (.cells c t)) (ι.set n (some (w.heap.size,0))) n (.box cs):=by
  refine⟨w.heap.size,0,Inj.set_same _,.inr rfl,by simp,fun i x hx=>?_⟩;have hlt:i<c.size:=by
   rw[<-hr.1];rcases aD i cs.length with h|h
   ·exact h
   ·simp[h]at hx
  exact⟨c[i],by simp,by simp,(hr.2 i x _ hx (bL hlt)).keep (tA _) (Inj.set_ext r _)⟩
 obtain⟨h1,h2⟩:=wZ r (.box cs) (.cells c t) ho;exact⟨_,_,Rel.op n 0 _ _ (Inj.set_same _),h1,h2⟩
theorem P2(r:Rep ι E w n h){t:TypeId}{z:List AV}(hz:qK P t=some z){K:AV->Nat->Hp->Prop}(hk:K (.op n 0) (n+1) ((n,.box z)::h)):
  EGives P E w ι n h (do pure (.value (<-Instr.alloc t true (.tuple #[])))) K:=by
 obtain⟨zv,i,h1,h2,_,_⟩:=sU (E:=E) (w:=w) (ι:=ι) hz;obtain⟨ι',E',g1,g2,g3⟩:=W9 r (t:=t) h2;exact iW (by simp[Instr.alloc,h1,newVar,newRow]) hk g1 g2 g3
theorem Yb(r:Rep ι E w n h){t:TypeId}{X:AV}{x:Value}(hX:Rel E w ι X x)(hs:X.solid=true){K:AV->Nat->Hp->Prop}(hk:K (.op n 0) (n+1) ((n,.box X.cells)::h)):
  EGives P E w ι n h (do pure (.value (<-Instr.box t x))) K:=by
 obtain⟨ι',E',g1,g2,g3⟩:=W9 r (t:=t) (pF hX hs);exact iW (by simp[Instr.box,newVar,newRow]) hk g1 g2 g3
theorem Mx{cs vs:List AV}{off:Nat}(hle:off+vs.length<=cs.length)(i:Nat):(setAt cs off vs)[i]? =if i<off then cs[i]? else if i<off+vs.length then vs[i-off]? else cs[i]? :=by
 unfold setAt;have ht:(cs.take off).length=off:=by simp;omega
 by_cases hi:i<off
 ·rw[aH hi,bJ zo,cZ,aH hi]
 ·rw[aF hi,bF zo,ht];by_cases hj:i<off+vs.length
  ·rw[aH hj,bJ zo]
  ·rw[aF hj,bF zo,cJ]
   congr 1;omega
theorem Z2{cs vs:List AV}{off:Nat}(hle:off+vs.length<=cs.length):(setAt cs off vs).length=cs.length:=by
 unfold setAt;simp;omega
theorem Vo{xs:List AV}{c:Array Value}(h:RL E w ι xs c)(ho:xs.all AV.one=true):∀v,v∈c.toList->v.oneCell'=true:=by
 intro v hv;obtain⟨i,hi⟩:=bH.1 hv;have hi':c[i]? =some v:=by simpa using hi
 have hlt:i<xs.length:=by
  rw[h.1];rcases aD i c.size with h'|h'
  ·exact h'
  ·simp[h']at hi'
 have hr:=h.2 i _ v (aE hlt) hi';rw[bT]at ho;exact Xv hr (ho _ (dE hlt))
theorem M5{t:TypeId}{m:Nat}{v:Value}{b o:Nat}(hm:tsz P t=some m)(hv:v.cells.size=m)(hc:∀j,j<m->(w.cell? ⟨b,o+j,none⟩).isSome=true/\w.frozen? ⟨b,o+j,none⟩=false)(h1:∀u,u∈v.cells.toList->u.oneCell'=true):
  (Instr.storeAt t (.pointer (some ⟨b,o,none⟩)) v).run P w=.ok () (w.setCells b o v.cells.toList):=by
 have hst:=run_storeCells_cells (P:=P) b o v.cells.toList 0 w (fun j hj=>by simpa using(hc j (by simpa[hv]using hj)).1) (fun j hj=>by simpa using(hc j (by simpa[hv]using hj)).2) h1;simp only[eN]at hst;simp[Instr.storeAt,Instr.sureAddr,storeVar,lX (P:=P) (w:=w) hm,hv,hst]
theorem vB{s:Sem Unit}{K:AV->Nat->Hp->Prop}{w':World}{ι':Inj}{E':Nat->Prop}{n':Nat}{h':Hp}(hs:s.run P w=.ok () w')(hk:K .junk n' h')(hrep:Rep ι' E' w' n' h')(hx:Ext ι h E w ι' h' E' w'):
  EGives P E w ι n h (do s;pure .skip) K:=⟨.junk,undef,w',ι',E',n',h',.inr ⟨by simp[hs],rfl⟩,hk,.junk _,hrep,hx⟩
theorem vL(r:Rep ι E w n h){t:TypeId}{m id off:Nat}{cs:List AV}{X:AV}{x a:Value}(hA:Rel E w ι (.op id off) a)(hX:Rel E w ι X x)(hg:get h id=some (.box cs))(hm:tsz P t=some m)(hs:X.solid=true)(hl:X.cells.length=m)
  (hle:off+m<=cs.length)(ho:X.cells.all AV.one=true){K:AV->Nat->Hp->Prop}(hk:K .junk n (set h id (.box (setAt cs off X.cells)))):EGives P E w ι n h (do Instr.storeAt t a x;pure .skip) K:=by
 cases hA with
 |op _ _ b base hι=>
  obtain⟨b',base',h1,h2,h3,h4⟩:=r.obj id _ hg;rw[hι]at h1;cases h1;have hrl:=pF hX hs;have hcell:∀i,i<cs.length->(w.cell? ⟨b,base+i,none⟩).isSome=true/\w.frozen? ⟨b,base+i,none⟩=false:=by
   intro i hi;obtain⟨u,hu1,hu2,_⟩:=h4 i _ (aE hi);exact⟨by simp[hu1],hu2⟩
  have hrun:=M5 (P:=P) (w:=w) (b:=b) (o:=base+off) hm (by rw[<-hrl.1];exact hl) (fun j hj=>by rw[cD];exact hcell _ zo) (Vo hrl ho);have hw:=lS w b x.cells.toList (base+off);have hkw:=hw.keeps (E:=E) h2;have hxl:x.cells.toList.length=m:=by rw[dU,<-hrl.1,hl]
  have horel:ORel E (w.setCells b (base+off) x.cells.toList) ι id (.box (setAt cs off X.cells)):=by
   refine⟨b,base,hι,h2,by rw[hw.size];exact h3,fun i c hi=>?_⟩;rw[Mx zo]at hi;by_cases hin:off<=i/\i<off+X.cells.length
   ·rw[aF zo,aH hin.2]at hi;have hlt:i-off<x.cells.toList.length:=by omega
    have hlt':i-off<x.cells.size:=by simpa using hlt
    refine⟨x.cells[i-off],?_,?_,(hrl.2 _ c _ hi (bL hlt')).keep hkw (fun _ _ h=>h)⟩
    ·have:=World.cell?_setCells_in b x.cells.toList (base+off) w (fun j hj=>by rw[cD];exact(hcell (off+j) zo).1) _ hlt;rw[show base+off+(i-off)=base+i by omega]at this;rw[this];simp
    ·rw[hw.mark];exact(hcell i zo).2
   ·have hi':cs[i]? =some c:=by
     by_cases h':i<off
     ·rwa[aH h']at hi
     ·rwa[aF h',aF zo]at hi
    obtain⟨u,hu1,hu2,hu3⟩:=h4 i c hi';refine⟨u,?_,by rw[hw.mark];exact hu2,hu3.keep hkw (fun _ _ h=>h)⟩;rw[World.cell?_setCells_out b _ _ w _ (fun _ _=>by show base+i<base+off\/base+off+_<=base+i;omega)];exact hu1
  obtain⟨g1,g2⟩:=oR r (Sub.del id) (m:=id) (n1:=n) hg hι (by rw[kV,aH rfl]) hw (fun _ _ h=>h) hι (fun _ _=>rfl) (aO _) r.fresh horel (by rw[kV,aH rfl]);exact vB hrun hk g1 g2
/-! ### maps -/
theorem Fq{t e:TypeId}(h:Jz P t=some e):∃k,P.underlying t=some (.map k e)/\P.underlying k=some .string:=by
 unfold Jz at h;split at h;case h_2=>cases h
 rename_i k e' ht;split at h;case h_2=>cases h
 rename_i hk;cases h;exact⟨k,ht,hk⟩
theorem xS{X:AV}{v:Value}{s:ByteArray}(h:Y0 X=some s)(hr:Rel E w ι X v):v=.string s:=by
 unfold Y0 at h;split at h;case h_2=>cases h
 cases h;exact mR hr
theorem Vi{e:TypeId}{z:AV}(h:X6 P e=some z):∃v,(zeroValue e).run P w=.ok v w/\Rel E w ι z v:=by
 unfold X6 at h;split at h;case h_2=>cases h
 rename_i i hi;split at h;case h_2=>cases h
 rename_i zv hz;cases h;exact⟨zv,by simp[zeroValue,typeInfo,hi,hz],wU zv⟩
theorem Kz(r:Rep ι E w n h){t:TypeId}{K:AV->Nat->Hp->Prop}(hk:K (.mp n) (n+1) ((n,.map fun _=>none)::h)):EGives P E w ι n h (do pure (.value (<-Instr.makeMap t none))) K:=by
 have ho:ORel (He E w) (w.alloc (.map #[] 0)) (ι.set n (some (w.heap.size,0))) n (.map fun _=>none):=
  ⟨w.heap.size,0,Inj.set_same _,.inr rfl,by simp,_,(MapKept.heap_alloc w _).1,#[],0,rfl,fun e he=>by simp at he,fun k x hk=>by simp at hk,MapKept.stamped_empty 0⟩
 obtain⟨h1,h2⟩:=wZ r (.map fun _=>none) (.map #[] 0) ho;exact iW (by simp[Instr.makeMap]) hk (Rel.mp n _ 0 (Inj.set_same _)) h1 h2
theorem O0(r:Rep ι E w n h){id:Nat}{f:Value->Option AV}(hg:mapOf (get h id)=some f):∃o b base es c,get h id=some o/\ι id=some (some (b,base))/\E b/\b<w.heap.size/\w.heap[b]? =some (.map es c)/\MapIs E w f es c:=by
 cases he:get h id with
 |none=>rw[he]at hg;cases hg
 |some o=>
  rw[he]at hg;have ho:=r.obj id o he;cases o with
  |spc s=>
   obtain⟨b,base,g1,g2,g3,o,g4,g5⟩:=ho;cases s with
   |m f'=>cases hg;obtain⟨es,c,rfl,g5⟩:=g5;exact⟨_,b,base,es,c,rfl,g1,g2,g3,g4,g5⟩
   |mt f' τ=>cases hg;obtain⟨rfl,g5⟩:=g5;exact⟨_,b,base,τ.1,τ.2,rfl,g1,g2,g3,g4,g5⟩
   |it _ _ _ _=>cases hg
  |_=>cases hg
theorem Ox(r:Rep ι E w n h){t e:TypeId}{id:Nat}{v:Value}{s:ByteArray}{f:Value->Option AV}{z:AV}{ok:Bool}(hm:Jz P t=some e)(hz:X6 P e=some z)(hX:Rel E w ι (.mp id) v)(hg:mapOf (get h id)=some f){K:AV->Nat->Hp->Prop}
  (hk:Mg (f (.string s)) (fun x=>match ok with
   |true=>K (.tup [x,.v (.bool true)]) n h
   |false=>K x n h) (match ok with
   |true=>K (.tup [z,.v (.bool false)]) n h
   |false=>K z n h)):EGives P E w ι n h (do pure (.value (<-Instr.lookup t v (.string s) ok))) K:=by
 obtain⟨kt,h1,h2⟩:=Fq hm;obtain⟨zv,hz1,hz2⟩:=Vi (E:=E) (w:=w) (ι:=ι) hz;cases hX with
 |mp _ b base hι=>
  obtain⟨ob,b',base',es,c,g0,g1,g2,g3,g4,g5⟩:=O0 r hg;rw[hι]at g1;cases g1;have hik:MapKept.IsKey .string (.string s):=trivial;have tup:∀{a:AV} {u:Value} {q:Bool},Rel E w ι a u->Rel E w ι (.tup [a,.v (.bool q)]) (.tuple #[u,.bool q]):=fun {a u q} hr=>.tup _ _ rfl fun i x y hx hy=>by
   match i with
   |0=>simp at hx hy;subst hx;subst hy;exact hr
   |1=>simp at hx hy;subst hx;subst hy;exact .v _
   |i+2=>simp at hx
  have hke:Keeps E w E w:=⟨aO _,fun _ _ h=>⟨rfl,h⟩,fun _ h=>h,fun _ _=>rfl⟩
  rcases MapKept.findNow_spec hik es.toList 0 (fun x hx=>(g5.ent x hx).1)with⟨q1,q2⟩|⟨j,en,q1,q2,q3⟩
  ·have hn:f (.string s)=none:=by
    cases hf:f (.string s)with
    |none=>rfl
    |some x=>obtain⟨en,he,hke⟩:=g5.dom _ _ hf;exact absurd hke (q2 en he)
   have hk:=hk.elim.2 hn;cases ok with
   |true=>exact iW (v:=.tuple #[zv,.bool false]) (by simp[Instr.lookup,run_underlying h1,MapKept.run_getObj_map g4,MapKept.run_checkKey h2 hik,MapKept.run_findKey h2 q1,hz1,Result.andThen]) hk (tup hz2) r (Ext.refl)
   |false=>exact iW (v:=zv) (by simp[Instr.lookup,run_underlying h1,MapKept.run_getObj_map g4,MapKept.run_checkKey h2 hik,MapKept.run_findKey h2 q1,hz1,Result.andThen]) hk hz2 r (Ext.refl)
  ·obtain⟨_,x,h3,h4⟩:=g5.ent en (aG q2);rw[q3]at h3;have hk:=hk.elim.1 x h3;have h5:Rel E w ι x en.val:=h4.keep hke (fun _ _ h=>by cases h);cases ok with
   |true=>exact iW (v:=.tuple #[en.val,.bool true]) (by simp[Instr.lookup,run_underlying h1,MapKept.run_getObj_map g4,MapKept.run_checkKey h2 hik,MapKept.run_findKey h2 q1,Result.andThen]) hk (tup h5) r (Ext.refl)
   |false=>exact iW (v:=en.val) (by simp[Instr.lookup,run_underlying h1,MapKept.run_getObj_map g4,MapKept.run_checkKey h2 hik,MapKept.run_findKey h2 q1,Result.andThen]) hk h5 r (Ext.refl)
theorem Vg{b:Nat}{es es':Array MapEntry}{c c':Nat}(hb:w.heap[b]? =some (.map es c)):Writes w b {w with heap:=w.heap.setIfInBounds b (.map es' c')}:=by
 obtain⟨h1,h2⟩:=MapKept.heap_set (o':=.map es' c') hb;refine⟨rfl,rfl,rfl,by simp,h2,fun a ha=>?_,fun a=>?_,rfl⟩
 ·by_cases e:a.block=b
  ·exfalso;simp[World.cell?,e,hb]at ha
  ·rw[cell_of_heap (h2 _ e)];exact ha
 ·by_cases e:a.block=b
  ·simp only[World.frozen?,e,hb,h1]
  ·simp only[World.frozen?,h2 _ e]
theorem D4(r:Rep ι E w n h){id b base:Nat}{f':Value->Option AV}{o:Obj}{es es':Array MapEntry}{c c':Nat}(hg:get h id=some o)(hι:ι id=some (some (b,base)))(hE:E b)(hlt:b<w.heap.size)(hb:w.heap[b]? =some (.map es c))(hm:MapIs E w f' es' c'):
  Rep ι E {w with heap:=w.heap.setIfInBounds b (.map es' c')} n (set h id (.map f'))/\Ext ι h E w ι (set h id (.map f')) E {w with heap:=w.heap.setIfInBounds b (.map es' c')}:=by
 have hw:=Vg (es':=es') (c':=c') hb;have hkw:=hw.keeps (E:=E) hE;exact oR r (Sub.del id) (m:=id) (n1:=n) hg hι (by rw[kV,aH rfl]) hw (fun _ _ h=>h) hι (fun _ _=>rfl) (aO _) r.fresh
  ⟨b,base,hι,hE,by rw[hw.size];exact hlt,_,(MapKept.heap_set hb).1,es',c',rfl,hm.keep hkw⟩ (by rw[kV,aH rfl])
theorem Rel.pure{x:AV}{y:Value}{ι':Inj}(h:Rel E w ι x y)(hp:x.pure=true):Rel E w ι' x y:=by
 cases x with
 |agg cs=>
  cases h with
  |agg _ c hs h=>
   simp only[AV.pure,bT]at hp;exact .agg _ _ hs fun i a b ha hb=>(h i a b ha hb).pure1 (hp a (aG ha))
 |_=>exact Rel.pure1 h hp
theorem mem_arr{α:Type}{a:Array α}{x:α}:x∈a.toList↔∃i:Nat,a[i]? =some x:=by
 rw[bH];simp
theorem G8{es:Array MapEntry}{c i j:Nat}{x y:MapEntry}(h:MapKept.Stamped es c)(hi:es[i]? =some x)(hj:es[j]? =some y)(he:x.key=y.key):i=j:=by
 have hnd:=h.2.2;have h1:(es.toList.map (·.key))[i]? =some x.key:=by simp[hi]
 have h2:(es.toList.map (·.key))[j]? =some x.key:=by simp[hj,he]
 exact(List.getElem?_inj (aP.1 h1).1 hnd).1 (h1.trans h2.symm)
theorem Uj{f:Value->Option AV}{es:Array MapEntry}{c:Nat}{s:ByteArray}{Y:AV}{y:Value}(h:MapIs E w f es c)(hn:∀x∈es.toList,x.key≠.string s)(hY:Rel E w jR Y y):MapIs E w (Gd f (.string s) Y) (es.push {key:=.string s,val:=y,born:=c}) (c+1):=by
 refine⟨fun e he=>?_,fun k x hk=>?_,MapKept.stamped_push h.st hn⟩
 ·simp only[Array.toList_push,aX,aU]at he;rcases he with he|rfl
  ·obtain⟨h1,x,h2,h3⟩:=h.ent e he;exact⟨h1,x,by rw[Gd,aF (hn e he)];exact h2,h3⟩
  ·exact⟨trivial,Y,by rw[Gd,aH rfl],hY⟩
 ·unfold Gd at hk;split at hk
  ·rename_i e;exact⟨{key:=.string s,val:=y,born:=c},by simp,e.symm⟩
  ·obtain⟨e,he,hke⟩:=h.dom k x hk;exact⟨e,by simp[he],hke⟩
theorem Oz{f:Value->Option AV}{es:Array MapEntry}{c j:Nat}{s:ByteArray}{Y:AV}{y:Value}{en:MapEntry}(h:MapIs E w f es c)(hj:es[j]? =some en)(hk:en.key=.string s)(hY:Rel E w jR Y y):
  MapIs E w (Gd f (.string s) Y) (es.modify j fun e=>{e with key:=.string s,val:=y}) c:=by
 have hget:∀i:Nat,(es.modify j fun e=>{e with key:=.string s,val:=y})[i]? =if j=i then es[i]?.map (fun e=>{e with key:=.string s,val:=y})else es[i]? :=fun i=>by
  rw[gS]
 refine⟨fun e he=>?_,fun k x hx=>?_,MapKept.stamped_modify h.st _ _ (fun _ _=>rfl) (fun e _ he=>by rw[hj]at he;cases he;exact hk.symm)⟩
 ·obtain⟨i,hi⟩:=mem_arr.1 he;rw[hget]at hi;split at hi
  ·rename_i e';subst e';rw[hj]at hi;cases hi;exact⟨trivial,Y,by rw[Gd,aH rfl],hY⟩
  ·rename_i hne;obtain⟨h1,x,h2,h3⟩:=h.ent e (mem_arr.2 ⟨i,hi⟩);exact⟨h1,x,by rw[Gd,aF (fun e'=>hne (G8 h.st hj hi (hk.trans e'.symm)))];exact h2,h3⟩
 ·unfold Gd at hx;split at hx
  ·rename_i e;exact⟨_,mem_arr.2 ⟨j,by rw[hget,aH rfl,hj];rfl⟩,e.symm⟩
  ·rename_i hne;obtain⟨e,he,hke⟩:=h.dom k x hx;obtain⟨i,hi⟩:=mem_arr.1 he;exact⟨e,mem_arr.2 ⟨i,by rw[hget,aF (fun e'=>by subst e';rw[hj]at hi;cases hi;exact hne (hke.symm.trans hk))];exact hi⟩,hke⟩
theorem Rp{f:Value->Option AV}{es:Array MapEntry}{c j:Nat}{s:ByteArray}{en:MapEntry}(h:MapIs E w f es c)(hj:es[j]? =some en)(hk:en.key=.string s):MapIs E w (Iz f (.string s)) (es.eraseIdxIfInBounds j) c:=by
 have hl:j<es.size:=(eO.1 hj).1;have hget:∀i:Nat,(es.eraseIdxIfInBounds j)[i]? =if i<j then es[i]? else es[i+1]? :=fun i=>by
  simp only[Array.eraseIdxIfInBounds,hl,dif_pos];rw[Array.getElem?_eraseIdx]
 refine⟨fun e he=>?_,fun k x hx=>?_,MapKept.stamped_erase h.st _⟩
 ·obtain⟨i,hi⟩:=mem_arr.1 he;rw[hget]at hi;have hin:∃i',i'≠j/\es[i']? =some e:=by
   split at hi
   ·exact⟨i,by omega,hi⟩
   ·exact⟨i+1,by omega,hi⟩
  obtain⟨i',hne,hi'⟩:=hin;obtain⟨h1,x,h2,h3⟩:=h.ent e (mem_arr.2 ⟨i',hi'⟩);exact⟨h1,x,by rw[Iz,aF (fun e'=>hne (G8 h.st hi' hj (e'.trans hk.symm)))];exact h2,h3⟩
 ·unfold Iz at hx;split at hx
  ·cases hx
  ·rename_i hne;obtain⟨e,he,hke⟩:=h.dom k x hx;obtain⟨i,hi⟩:=mem_arr.1 he;have hij:i≠j:=fun e'=>by subst e';rw[hj]at hi;cases hi;exact hne (hke.symm.trans hk)
   rcases Nat.lt_or_gt_of_ne hij with hlt|hgt
   ·exact⟨e,mem_arr.2 ⟨i,by rw[hget,aH hlt];exact hi⟩,hke⟩
   ·exact⟨e,mem_arr.2 ⟨i-1,by rw[hget,aF zo,show i-1+1=i by omega];exact hi⟩,hke⟩
theorem Uk{f g:Value->Option AV}{es:Array MapEntry}{c:Nat}(h:MapIs E w f es c)(he:∀k,g k=f k):MapIs E w g es c:=by
 rw[show g=f from funext he];exact h
theorem Hl(r:Rep ι E w n h){t e:TypeId}{id:Nat}{v y:Value}{s:ByteArray}{f:Value->Option AV}{Y:AV}(hm:Jz P t=some e)(hX:Rel E w ι (.mp id) v)(hY:Rel E w ι Y y)(hp:Y.pure=true)(hg:mapOf (get h id)=some f){K:AV->Nat->Hp->Prop}
  (hk:K .junk n (set h id (.map (Gd f (.string s) Y)))):EGives P E w ι n h (do Instr.mapUpdate t v (.string s) y;pure .skip) K:=by
 obtain⟨kt,h1,h2⟩:=Fq hm;cases hX with
 |mp _ b base hι=>
  obtain⟨ob,b',base',es,c,g0,g1,g2,g3,g4,g5⟩:=O0 r hg;rw[hι]at g1;cases g1;have hik:MapKept.IsKey .string (.string s):=trivial;have hY':Rel E w jR Y y:=hY.pure hp;rcases MapKept.findNow_spec hik es.toList 0 (fun x hx=>(g5.ent x hx).1)with⟨q1,q2⟩|⟨j,en,q1,q2,q3⟩
  ·obtain⟨k1,k2⟩:=D4 r g0 hι g2 g3 g4 (Uj g5 q2 hY');exact vB (by simp[Instr.mapUpdate,run_underlying h1,MapKept.run_getObj_map g4,MapKept.run_checkKey h2 hik,MapKept.run_findKey h2 q1,MapKept.run_setObj_map _ g4,Result.andThen]) hk k1 k2
  ·have hj:es[j]? =some en:=by simpa using q2
   obtain⟨k1,k2⟩:=D4 r g0 hι g2 g3 g4 (Oz g5 hj q3 hY');exact vB (by simp[Instr.mapUpdate,run_underlying h1,MapKept.run_getObj_map g4,MapKept.run_checkKey h2 hik,MapKept.run_findKey h2 q1,hj,q3,MapKept.run_keyThatStays hik,MapKept.run_setObj_map _ g4,Result.andThen]) hk k1 k2
theorem Dk(r:Rep ι E w n h){t ty e:TypeId}{aT:Array TypeId}(ht0:aT[0]? =some t){id:Nat}{v:Value}{s:ByteArray}{f:Value->Option AV}(hm:Jz P t=some e)(hX:Rel E w ι (.mp id) v)(hg:mapOf (get h id)=some f){K:AV->Nat->Hp->Prop}
  (hk:K (.tup []) n (set h id (.map (Iz f (.string s))))):EGives P E w ι n h (do pure (.value (<-Builtin.delete_ aT ty #[v,.string s]))) K:=by
 obtain⟨kt,h1,h2⟩:=Fq hm;cases hX with
 |mp _ b base hι=>
  obtain⟨ob,b',base',es,c,g0,g1,g2,g3,g4,g5⟩:=O0 r hg;rw[hι]at g1;cases g1;have hik:MapKept.IsKey .string (.string s):=trivial;have ht:∀{E':Nat->Prop} {w':World},Rel E' w' ι (.tup []) (.tuple #[]):=.tup _ _ rfl fun i x y hx _=>by simp at hx
  rcases MapKept.findNow_spec hik es.toList 0 (fun x hx=>(g5.ent x hx).1)with⟨q1,q2⟩|⟨j,en,q1,q2,q3⟩
  ·have hn:f (.string s)=none:=by
    cases hf:f (.string s)with
    |none=>rfl
    |some x=>obtain⟨en,he,hke⟩:=g5.dom _ _ hf;exact absurd hke (q2 en he)
   obtain⟨k1,k2⟩:=D4 r g0 hι g2 g3 g4 (es':=es) (c':=c) (Uk g5 (g:=Iz f (.string s)) fun k=>by
    unfold Iz;split
    ·rename_i e;rw[e,hn]
    ·rfl)
   exact iW (by simp[Builtin.delete_,ht0,run_underlying h1,MapKept.run_getObj_map g4,MapKept.run_checkKey h2 hik,MapKept.run_findKey h2 q1,MapKept.run_setObj_map _ g4,Result.andThen]) hk ht k1 k2
  ·have hj:es[j]? =some en:=by simpa using q2
   obtain⟨k1,k2⟩:=D4 r g0 hι g2 g3 g4 (Rp g5 hj q3);exact iW (by simp[Builtin.delete_,ht0,run_underlying h1,MapKept.run_getObj_map g4,MapKept.run_checkKey h2 hik,MapKept.run_findKey h2 q1,MapKept.run_setObj_map _ g4,Result.andThen]) hk ht k1 k2
theorem vK(r:Rep ι E w n h){t:TypeId}{m id sz i off:Nat}{xs:List AV}{X e e':AV}{x a:Value}(hA:Rel E w ι (.ep id sz i off) a)(hX:Rel E w ι X x)(hg:get h id=some (.arr sz xs))(hm:tsz P t=some m)(hs:X.solid=true)(hl:X.cells.length=m)
  (he:xs[i]? =some e)(hle:off+m<=e.cells.length)(ho:X.cells.all AV.pure1=true)(he':e'.cells=setAt e.cells off X.cells){K:AV->Nat->Hp->Prop}(hk:K .junk n (set h id (.arr sz (xs.set i e')))):EGives P E w ι n h (do Instr.storeAt t a x;pure .skip) K:=by
 cases hA with
 |ep _ _ _ _ b base hι=>
  have hz:=G9 r hg;rcases r.obj id _ hg with⟨h1,_⟩|⟨b',base',h1,h2,h3,h4,h5⟩
  ·rw[hι]at h1;cases h1
  rw[hι]at h1;cases h1;have hrl:=pF hX hs;have hei:=h4 i e he;have hcell:∀j,j<sz->(w.cell? ⟨b,base+i*sz+j,none⟩).isSome=true/\w.frozen? ⟨b,base+i*sz+j,none⟩=false:=by
   intro j hj;obtain⟨u,hu1,hu2,_⟩:=h5 i e j _ he (aE zo);exact⟨by simp[hu1],hu2⟩
  have ho1:X.cells.all AV.one=true:=by
   rw[bT]at ho⊢;exact fun c hc=>AV.one_of_pure1 (ho c hc)
  have hrun:=M5 (P:=P) (w:=w) (b:=b) (o:=base+i*sz+off) hm (by rw[<-hrl.1];exact hl) (fun j hj=>by rw[cD];exact hcell _ zo) (Vo hrl ho1);have hw:=lS w b x.cells.toList (base+i*sz+off);have hkw:=hw.keeps (E:=E) h2;have hxl:x.cells.toList.length=m:=by rw[dU,<-hrl.1,hl]
  have hel:e'.cells.length=sz:=by rw[he',Z2 zo];exact hei
  have horel:ORel E (w.setCells b (base+i*sz+off) x.cells.toList) ι id (.arr sz (xs.set i e')):=by
   refine .inr ⟨b,base,hι,h2,by rw[hw.size];exact h3,fun q y hq=>?_,fun q y j c hq hj=>?_⟩
   ·rw[List.getElem?_set]at hq;split at hq
    ·split at hq
     ·cases hq;exact hel
     ·cases hq
    ·exact h4 q y hq
   ·rw[List.getElem?_set]at hq;by_cases hqi:i=q
    ·subst hqi;rw[aH rfl]at hq;split at hq
     ·cases hq;rw[he',Mx zo]at hj;by_cases hin:off<=j/\j<off+X.cells.length
      ·rw[aF zo,aH hin.2]at hj;have hlt:j-off<x.cells.toList.length:=by omega
       have hlt':j-off<x.cells.size:=by simpa using hlt
       have hpc:c.pure1=true:=by rw[bT]at ho;exact ho c (aG hj)
       refine⟨x.cells[j-off],?_,?_,((hrl.2 _ c _ hj (bL hlt')).pure1 hpc).keep hkw (fun _ _ h=>h)⟩
       ·have:=World.cell?_setCells_in b x.cells.toList (base+i*sz+off) w (fun k hk=>by rw[cD];exact(hcell (off+k) zo).1) _ hlt;rw[show base+i*sz+off+(j-off)=base+i*sz+j by omega]at this;rw[this];simp
       ·rw[hw.mark];exact(hcell j zo).2
      ·have hj':e.cells[j]? =some c:=by
        by_cases h':j<off
        ·rwa[aH h']at hj
        ·rwa[aF h',aF zo]at hj
       obtain⟨u,hu1,hu2,hu3⟩:=h5 i e j c he hj';refine⟨u,?_,by rw[hw.mark];exact hu2,hu3.keep hkw (fun _ _ h=>h)⟩;rw[World.cell?_setCells_out b _ _ w _ (fun _ _=>by show base+i*sz+j<base+i*sz+off\/base+i*sz+off+_<=base+i*sz+j;omega)];exact hu1
     ·cases hq
    ·rw[aF hqi]at hq;have hjl:j<sz:=by
      have:=h4 q y hq;rcases aD j y.cells.length with h|h
      ·omega
      ·simp[h]at hj
     obtain⟨u,hu1,hu2,hu3⟩:=h5 q y j c hq hj;refine⟨u,?_,by rw[hw.mark];exact hu2,hu3.keep hkw (fun _ _ h=>h)⟩;rw[World.cell?_setCells_out b _ _ w _ (fun _ _=>by
      show base+q*sz+j<base+i*sz+off\/base+i*sz+off+_<=base+q*sz+j;rcases Nat.lt_or_gt_of_ne hqi with h|h
      ·right;have:(i+1)*sz<=q*sz:=bZ _ h;rw[cE]at this;omega
      ·left;have:(q+1)*sz<=i*sz:=bZ _ h;rw[cE]at this;omega)]
     exact hu1
  obtain⟨g1,g2⟩:=oR r (Sub.del id) (m:=id) (n1:=n) hg hι (by rw[kV,aH rfl]) hw (fun _ _ h=>h) hι (fun _ _=>rfl) (aO _) r.fresh horel (by rw[kV,aH rfl]);exact vB hrun hk g1 g2
theorem Fh{sz:Nat}:∀(parts:List (Nat×Value)) (k:Nat) (c:Array Value),(∀(j:Nat) p,parts[j]? =some p->p.1=k+j/\p.2.cells.size=sz)->(k+parts.length)*sz<=c.size->
  ∃c',Instr.fill (fun i=>some (i*sz,sz)) c parts=some c'/\c'.size=c.size/\(∀q,q<k*sz->c'[q]? =c[q]?)/\∀(j:Nat) p q,parts[j]? =some p->q<sz->c'[(k+j)*sz+q]? =p.2.cells[q]?
 |[],k,c,_,_=>⟨c,rfl,rfl,fun _ _=>rfl,fun j p q h=>by simp at h⟩
 |(i,v)::parts,k,c,hp,hc=>by
  obtain⟨h1,h2⟩:=hp 0 _ rfl;simp only[eN]at h1 h2;subst h1;have hlen:(i+1)*sz<=(i+(parts.length+1))*sz:=bZ _ zo;simp only[aB]at hc;rw[cE,fQ]at hlen;obtain⟨l,hv⟩:∃l:List Value,v.cells=⟨l⟩:=⟨v.cells.toList,by simp⟩
  have hf:=Ja (i*sz) l 0 c;have he:(v.cells.zipIdx.foldl (fun cs (c,j)=>cs.setIfInBounds (i*sz+j) c) c)=((l.zipIdx 0).foldl (fun cs (p:Value×Nat)=>cs.setIfInBounds (i*sz+p.2) p.1) c):=by
   rw[hv,<-Array.foldl_toList];simp only[Array.toList_zipIdx]
  have hll:l.length=sz:=by rw[hv]at h2;exact h2
  obtain⟨c',g1,g2,g3,g4⟩:=Fh parts (i+1) _ (fun j p hj=>by
   obtain⟨a1,a2⟩:=hp (j+1) p (by simpa using hj);exact⟨by omega,a2⟩) (by rw[hf.1];rw[show i+1+parts.length=i+(parts.length+1) by omega];exact hc)
  refine⟨c',?_,by rw[g2,hf.1],fun q hq=>?_,fun j p q hj hq=>?_⟩
  ·simp only[Instr.fill];rw[aF]
   ·rw[he];exact g1
   ·simp only[bV,aL,not_or];simp only[h2];simp;omega
  ·rw[g3 q (by rw[cE];omega),hf.2 q,aF zo]
  ·cases j with
   |zero=>
    simp only[eI,bN]at hj;subst hj;simp only[eN];rw[g3 _ (by rw[cE];omega),hf.2,aH ⟨by omega,by omega,by omega⟩];simp only[hv];simp
   |succ j=>
    have:=g4 j p q (by simpa using hj) hq
    rwa[show i+1+j=i+(j+1) by omega]at this
theorem wF{sz:Nat}:∀{parts:List (Nat×AV)} {k:Nat},rY sz k parts=true->∀(j:Nat) p,parts[j]? =some p->p.1=k+j/\p.2.cells.length=sz/\p.2.pure=true
 |[],k,_,j,p,hj=>by simp at hj
 |(i,x)::r,k,h,j,p,hj=>by
  simp only[rY,aJ]at h;obtain⟨h1,h2,h3,h4⟩:=h;cases j with
  |zero=>
   simp only[eI,bN]at hj;subst hj;exact⟨aY h1,aY h2,h3⟩
  |succ j=>
   obtain⟨a,b⟩:=wF h4 j p (by simpa using hj);exact⟨by omega,b⟩
theorem tT(r:Rep ι E w n h){ev:Operand->AV}{ρ:Operand->Value}(hev:∀x,Rel E w ι (ev x) (ρ x)){t e:TypeId}{len sz:Nat}{parts:Array (Nat×Operand)}{z:AV}(hu:P.underlying t=some (.slice e))(hsz:tsz P e=some sz)(hz:oE P e=some z)
  (hl:parts.size=len)(hle:len*sz<=16777216)(hf:rY sz 0 (parts.toList.map fun p=>(p.1,ev p.2))=true){K:AV->Nat->Hp->Prop}(hk:K (.os n sz 0 len) (n+1) ((n,.arr sz (parts.toList.map fun p=>ev p.2))::h)):
  EGives P E w ι n h (do pure (.value (<-Instr.buildSlice t len (parts.map fun(i,x)=>(i,ρ x))))) K:=by
 obtain⟨zv,i,sz',z1,z2,z3,z4,z5,z6⟩:=oF (E:=E) (w:=w) hz;have hsz':sz'=sz:=by unfold tsz at hsz;simp[z2]at hsz;omega
 subst hsz';have hso:=lX (P:=P) (w:=w) hsz
 let vals:List (Nat×Value):=(parts.map fun(i,x)=>(i,ρ x)).toList
 have hvl:vals.length=len:=by simp[vals,hl]
 have hpv:∀(j:Nat) p,vals[j]? =some p->∃o,parts.toList[j]? =some (p.1,o)/\p.2=ρ o:=by
  intro j p hj;simp only[vals,Array.toList_map,bX,bW]at hj;obtain⟨q,hq,rfl⟩:=hj;exact⟨q.2,hq,rfl⟩
 have hspec:=wF hf;have hcell:∀(j:Nat) p,vals[j]? =some p->p.1=0+j/\p.2.cells.size=sz':=by
  intro j p hj;obtain⟨o,ho,hp⟩:=hpv j p hj;obtain⟨a1,a2,a3⟩:=hspec j (p.1,ev o) (by simp[ho]);refine⟨a1,?_⟩;rw[hp,<-(pF (hev o) (AV.solid_of_pure a3)).1];exact a2
 let c0:Array Value:=(Array.range (len*sz')).map (zv.cells[· %zv.cells.size]!)
 have hc0:c0.size=len*sz':=by simp[c0]
 let c1:Array Value:=(Array.range (len*sz')).map ((if len*sz'=0 then #[]else zv.cells)[· %(if len*sz'=0 then #[]else zv.cells).size]!)
 obtain⟨c',g1,g2,g3,g4⟩:=Fh vals 0 c1 hcell (by simp[c1,hvl]);have hrun:(Instr.buildSlice t len (parts.map fun(i,x)=>(i,ρ x))).run P w=.ok (.slice (some ⟨w.heap.size,0,none⟩) len len) (w.alloc (.cells c' e)):=by
  have hle':¬(len*sz'>2^24):=by omega
  simp only[Instr.buildSlice,Sem.run_bind,run_underlying hu,Result.andThen_ok,hso];rw[aF hle'];by_cases h0:len*sz'=0
  ·rw[aH h0];simp only[c1,h0,if_true]at g1;simp only[Sem.run_bind,Sem.run_pure,Result.andThen_ok,h0];simp only[vals]at g1;rw[g1];simp[newRow]
  ·rw[aF h0];simp only[c1,h0,if_false]at g1;simp only[Sem.run_bind,Sem.run_pure,Result.andThen_ok,z1];simp only[vals]at g1;rw[g1];simp[newRow]
 have hxs:∀(j:Nat) x,(parts.toList.map fun p=>ev p.2)[j]? =some x->∃o,(∃i,parts.toList[j]? =some (i,o))/\x=ev o/\x.cells.length=sz'/\x.pure=true:=by
  intro j x hx;simp only[bX,bW]at hx;obtain⟨q,hq,rfl⟩:=hx;obtain⟨a1,a2,a3⟩:=hspec j (q.1,ev q.2) (by simp[hq]);exact⟨q.2,⟨q.1,hq⟩,rfl,a2,a3⟩
 have hz':∀x,x∈(parts.toList.map fun p=>ev p.2)->x.cells.length=sz':=by
  intro x hx;obtain⟨j,hj⟩:=bH.1 hx;obtain⟨o,_,_,h2,_⟩:=hxs j x hj;exact h2
 obtain⟨ι',E',k1,k2,k3⟩:=O1 r Sub.refl (sz:=sz') (xs:=parts.toList.map fun p=>ev p.2) (c:=c') (t:=e) (cap:=len) (len:=len) hz' (fun k y hky=>by
  obtain⟨j,x,q,a1,a2,a3,rfl⟩:=flat_get hz' hky;obtain⟨o,⟨i,ho⟩,rfl,b2,b3⟩:=hxs j _ a1;have hv:vals[j]? =some (i,ρ o):=by
   simp only[vals,Array.toList_map,bX,ho,dG]
  have:=g4 j _ q hv a3;rw[bM]at this;have hrl:=pF (hev o) (AV.solid_of_pure b3);have hlt:q<(ρ o).cells.size:=by rw[<-hrl.1,b2];exact a3
  refine⟨(ρ o).cells[q],by rw[this];exact bL hlt,(hrl.2 q y _ a2 (bL hlt)).pure1 ?_⟩;exact AV.pure_cells b3 y (aG a2)) (by rw[g2];simp[c1]) (aO _)
 exact iW hrun hk k1 k2 k3
theorem No(r:Rep ι E w n h){ev:Operand->AV}{ρ:Operand->Value}(hev:∀x,Rel E w ι (ev x) (ρ x)){t e:TypeId}{sz:Nat}{parts:Array (Nat×Operand)}{p:Nat×Operand}{z:AV}(hu:P.underlying t=some (.slice e))(hsz:tsz P e=some sz)(hz:oE P e=some z)
  (hp:parts.toList=[p])(hp0:p.1=0)(hcl:(ev p.2).cells.length=sz)(hle:sz<=1000000)(hso1:(ev p.2).solid=true){K:AV->Nat->Hp->Prop}(hk:K (.os n sz 0 1) (n+1) ((n,.box (ev p.2).cells)::h)):
  EGives P E w ι n h (do pure (.value (<-Instr.buildSlice t 1 (parts.map fun(i,x)=>(i,ρ x))))) K:=by
 obtain⟨zv,i,sz',z1,z2,z3,z4,z5,z6⟩:=oF (E:=E) (w:=w) hz;have hsz':sz'=sz:=by unfold tsz at hsz;simp[z2]at hsz;omega
 subst hsz';have hso:=lX (P:=P) (w:=w) hsz;have hrl:=pF (hev p.2) hso1;have hvs:(parts.map fun(i,x)=>(i,ρ x)).toList=[(0,ρ p.2)]:=by rw[Array.toList_map,hp,<-hp0];rfl
 let c1:Array Value:=(Array.range (1*sz')).map ((if 1*sz'=0 then #[]else zv.cells)[· %(if 1*sz'=0 then #[]else zv.cells).size]!)
 obtain⟨c',g1,g2,g3,g4⟩:=Fh (sz:=sz') [(0,ρ p.2)] 0 c1 (fun j q hq=>by
  match j with
  |0=>simp at hq;subst hq;exact⟨rfl,by rw[<-hrl.1];exact hcl⟩
  |j+1=>simp at hq) (by simp[c1])
 have hrun:(Instr.buildSlice t 1 (parts.map fun(i,x)=>(i,ρ x))).run P w=.ok (.slice (some ⟨w.heap.size,0,none⟩) 1 1) (w.alloc (.cells c' e)):=by
  have hle':¬(1*sz'>2^24):=by omega
  simp only[Instr.buildSlice,Sem.run_bind,run_underlying hu,Result.andThen_ok,hso];rw[aF hle'];by_cases h0:1*sz'=0
  ·rw[aH h0];simp only[c1,h0,if_true]at g1;simp only[Sem.run_bind,Sem.run_pure,Result.andThen_ok,h0,hvs];rw[g1];simp[newRow]
  ·rw[aF h0];simp only[c1,h0,if_false]at g1;simp only[Sem.run_bind,Sem.run_pure,Result.andThen_ok,z1,hvs];rw[g1];simp[newRow]
 obtain⟨ι',E',k1,k2,k3⟩:=Rs r Sub.refl (sz:=sz') (cs:=(ev p.2).cells) (c:=c') (t:=e) (cap:=1) (len:=1) (fun k y hky=>by
  have hkl:k<(ev p.2).cells.length:=by
   rcases aD k (ev p.2).cells.length with h|h
   ·exact h
   ·rw[bS h]at hky;cases hky
  have:=g4 0 (0,ρ p.2) k rfl zo;rw[bM,fF,bM]at this;have hlt:k<(ρ p.2).cells.size:=by rw[<-hrl.1];exact hkl
  exact⟨(ρ p.2).cells[k],by rw[this];exact bL hlt,hrl.2 k y _ hky (bL hlt)⟩) (by rw[g2];simp[c1]) (aO _)
 exact iW hrun hk k1 k2 k3
def Db(ι:Inj)(h:Hp)(S:Nat->Prop)(E:Nat->Prop):Nat->Prop:=fun b=>E b/\¬∃id o base,S id/\get h id=some o/\ι id=some (some (b,base))
theorem xR(S:Nat->Prop):Keeps E w (Db ι h S E) w:=⟨aO _,fun b _ hE=>⟨rfl,fun hh=>hE hh.1⟩,fun _ h=>h,fun _ _=>rfl⟩
theorem release(r:Rep ι E w n h)(S:Nat->Prop){h0:Hp}(hs:Sub h0 h)(hS:∀id o,get h0 id=some o->¬S id):Rep ι (Db ι h S E) w n h0/\Ext ι h E w ι h0 (Db ι h S E) w:=by
 refine⟨⟨r.fresh,fun id o hg=>(r.obj id o (hs _ _ hg)).keep (xR S) (fun _ _ h=>h) (fun b base hb=>⟨r.own_E ⟨id,o,base,hs _ _ hg,hb⟩,?_⟩) (fun _ _ _=>rfl),
  fun id id' o o' b base base' h1 h2=>r.sep id id' o o' b base base' (hs _ _ h1) (hs _ _ h2),fun b hb=>r.bound b hb.1,r.glob.keep (xR S)⟩,
  ⟨rfl,rfl,rfl,aO _,fun _ _ h=>h,fun b hb hn=>⟨rfl,fun h=>h.1,fun h=>⟨h,?_⟩⟩,fun b hb ho=>?_,fun _ h=>h,fun _ _=>rfl,aO _⟩⟩
 ·rintro⟨id',o',base',h1,h2,h3⟩
  have:=r.sep _ _ _ _ _ _ _ (hs _ _ hg) h2 hb h3;subst this;exact hS _ _ hg h1
 ·rintro⟨id',o',base',h1,h2,h3⟩
  exact hn ⟨id',o',base',h2,h3⟩
 ·obtain⟨id,o,base,h1,h2⟩:=ho;exact⟨id,o,base,hs _ _ h1,h2⟩
theorem Ii(r:Rep ι E w n h){ev:Operand->AV}{ρ:Operand->Value}(hev:∀x,Rel E w ι (ev x) (ρ x)){t e:TypeId}{len sz:Nat}{parts:Array (Nat×Operand)}{z:AV}(hu:P.underlying t=some (.slice e))(hsz:tsz P e=some sz)(hz:oE P e=some z)
  (hl:parts.size=len)(hle:len*sz<=16777216)(hf:rY sz 0 (parts.toList.map fun p=>(p.1,ev p.2))=true){K:AV->Nat->Hp->Prop}(hk:K (.lst (parts.toList.map fun p=>ev p.2)) (n+1) h):
  EGives P E w ι n h (do pure (.value (<-Instr.buildSlice t len (parts.map fun(i,x)=>(i,ρ x))))) K:=by
 obtain⟨x,v,w',ι',E',n',h',hrun,⟨rfl,rfl,rfl⟩,hr,hrep,hx⟩:=tT r hev hu hsz hz hl hle hf (K:=fun x n' h'=>x=.os n sz 0 len/\n'=n+1/\h'=(n,.arr sz (parts.toList.map fun p=>ev p.2))::h) ⟨rfl,rfl,rfl⟩;have hxl:(parts.toList.map fun p=>ev p.2).length=len:=by simp[hl]
 generalize (parts.toList.map fun p=>ev p.2)=xs at*;have hn:∀id o,get h id=some o->n≠id:=fun id o hg e=>by
  subst e;have h0:=r.fresh n (aO _);have h1:=r.obj n o hg;cases o with
  |box cs=>obtain⟨_,_,h2,_⟩:=h1;rw[h0]at h2;cases h2
  |arr s ys=>
   rcases h1 with⟨h2,_⟩|⟨_,_,h2,_⟩
   ·rw[h0]at h2;cases h2
   ·rw[h0]at h2;cases h2
  |spc s=>obtain⟨_,_,h2,_⟩:=h1;rw[h0]at h2;cases h2
 have hsub:Sub h ((n,.arr sz xs)::h):=fun id o hg=>by rw[jA,aF (hn id o hg)];exact hg
 obtain⟨q1,q2⟩:=release hrep (fun i=>i=n) hsub (fun id o hg e=>hn id o hg e.symm);have hg:get ((n,Obj.arr sz xs)::h) n=some (.arr sz xs):=by rw[jA,aH rfl]
 refine⟨.lst xs,v,w',ι',_,n+1,h,hrun,hk,?_,q1,hx.trans q2⟩;cases hr with
 |osz _ _ _ a=>rw[cT.1 hxl];exact .lnil _ _
 |os _ _ _ _ b base cap hι hc hcell=>
  have hE:¬Db ι' ((n,Obj.arr sz xs)::h) (fun i=>i=n) E' b:=fun hh=>hh.2 ⟨n,_,base,rfl,hg,hι⟩;have hb:=own_ne hrep hg hι;rcases hrep.obj n _ hg with⟨h3,_⟩|⟨b',base',h3,h4,h5,h6,h7⟩
  ·rw[hι]at h3;cases h3
  ·rw[hι]at h3;cases h3;refine .lst _ b _ _ cap sz hE hb hxl.symm hc h6 (fun i j=>(w'.cell? ⟨b,base+0*sz+i*sz+j,none⟩).getD default) (fun i x j y hx hy=>?_) (fun i x j y hx hy=>?_)
   ·obtain⟨u,hu,_⟩:=h7 _ x j y hx hy;rw[show base+i*sz+j=base+0*sz+i*sz+j by omega]at hu;simp only[hu,cY]
   ·obtain⟨u,hu,_,hr⟩:=h7 _ x j y hx hy;rw[show base+i*sz+j=base+0*sz+i*sz+j by omega]at hu;simp only[hu,cY];exact hr.keep (xR _) (fun _ _ h=>h)
theorem Hk(r:Rep ι E w n h){t e:TypeId}{a b:Nat}{k k':IntKind}{i:TypeInfo}{z:AV}(hu:P.underlying t=some (.slice e))(hi:P.info? e=some i)(hz:oE P e=some z)(ha:a<140737488355329)(hb:b<140737488355329)
  (hab:a<=b)(hbb:i.bytes*b<=140737488355328){K:AV->Nat->Hp->Prop}(hk:K (.os n i.size 0 a) (n+1) ((n,.arr i.size (List.replicate b z))::h)):
  EGives P E w ι n h (do pure (.value (<-Instr.makeSlice t (.int k (a:Int)) (.int k' (b:Int))))) K:=by
 obtain⟨zv,i',sz',z1,z2,z3,z4,z5,z6⟩:=oF (E:=E) (w:=w) hz;rw[hi]at z2;cases z2;subst z3;have hti:(typeInfo e).run P w=.ok i w:=by simp[typeInfo,hi]
 have hso:(sizeOf e).run P w=.ok i.size w:=by simp[sizeOf,typeInfo,hi]
 have wa:=wrap_small ha;have wb:=wrap_small hb;have hm:∀q:Nat,q<=b->¬(281474976710656<(i.bytes:Int)*(q:Int)):=by
  intro q hq;rw[<-Int.natCast_mul];have:i.bytes*q<=i.bytes*b:=dV _ hq;omega
 have e1:¬((a:Int)<0):=by omega
 have e2:¬((b:Int)<0):=by omega
 have e3:¬((b:Int)<(a:Int)):=by omega
 let c:Array Value:=(Array.range (b*i.size)).map (zv.cells[· %zv.cells.size]!)
 have hrun:(Instr.makeSlice t (.int k (a:Int)) (.int k' (b:Int))).run P w=.ok (.slice (some ⟨w.heap.size,0,none⟩) a b) (w.alloc (.cells c e)):=by
  by_cases h0:b*i.size=0
  ·have hc:c=#[]:=by apply dA;simp[c,h0]
   simp[Instr.makeSlice,run_underlying hu,asInt,asIntOf,hti,wa,wb,hm b (aO _),e1,e2,e3,hso,h0,newRow,hc]
   congr 2
   apply dA;simp
  ·simp[Instr.makeSlice,run_underlying hu,asInt,asIntOf,hti,wa,wb,hm b (aO _),e1,e2,e3,hso,h0,newRow,z1,c]
 have hz':∀x,x∈List.replicate b z->x.cells.length=i.size:=fun x hx=>by rw[eU hx];exact z5
 have hcc:c=Builtin.zeroCells zv.cells b:=by simp only[c,Builtin.zeroCells,z6]
 obtain⟨ι',E',k1,k2,k3⟩:=O1 r Sub.refl (sz:=i.size) (xs:=List.replicate b z) (c:=c) (t:=e) (cap:=b) (len:=a) hz' (fun q y hq=>by rw[hcc];exact tQ z6 z4 hq) (by simp[c]) hab;exact iW hrun hk k1 k2 k3
theorem Ki{sz:Nat}{xs zs:List AV}(hz:∀x,x∈xs->x.cells.length=sz)(hz':∀x,x∈zs->x.cells.length=sz){off:Nat}(hle:off+zs.length<=xs.length){k:Nat}{y:AV}
  (hk:((xs.take off++(zs++xs.drop (off+zs.length))).flatMap AV.cells)[k]? =some y):
  (off*sz<=k/\k<(off+zs.length)*sz/\(zs.flatMap AV.cells)[k-off*sz]? =some y)\/((k<off*sz\/(off+zs.length)*sz<=k)/\(xs.flatMap AV.cells)[k]? =some y):=by
 have hall:∀x,x∈(xs.take off++(zs++xs.drop (off+zs.length)))->x.cells.length=sz:=by
  intro x hx;simp only[aX]at hx;rcases hx with hx|hx|hx
  ·exact hz x (cP hx)
  ·exact hz' x hx
  ·exact hz x (dZ hx)
 obtain⟨i,x,j,h1,h2,h3,rfl⟩:=flat_get hall hk;have ht:(xs.take off).length=off:=by simp;omega
 by_cases hi:i<off
 ·rw[bJ zo,cZ,aH hi]at h1;refine .inr ⟨.inl ?_,Dq hz h1 h2⟩;have:(i+1)*sz<=off*sz:=bZ _ hi;rw[cE]at this;omega
 ·rw[bF zo,ht]at h1;by_cases hj:i-off<zs.length
  ·rw[bJ hj]at h1;have hm:off*sz<=i*sz:=bZ _ zo;have hm2:(i+1)*sz<=(off+zs.length)*sz:=bZ _ zo;rw[cE,fQ]at hm2;refine .inl ⟨by omega,by omega,?_⟩;have:=Dq hz' h1 h2;rw[Nat.sub_mul]at this;rw[<-this];congr 1;omega
  ·rw[bF zo,cJ]at h1;rw[show off+zs.length+(i-off-zs.length)=i by omega]at h1;refine .inr ⟨.inr ?_,Dq hz h1 h2⟩;have:(off+zs.length)*sz<=i*sz:=bZ _ zo;omega
theorem Tb(r:Rep ι E w n h){t t' ty e:TypeId}{id sz off len:Nat}{xs ys:List AV}{x y:Value}(hX:Rel E w ι (.os id sz off len) x)(hu:P.underlying t=some (.slice e))(hsz:tsz P e=some sz)(hg:get h id=some (.arr sz xs))(hs:Src P E w sz y ys)
  (hle:off+len<=xs.length)(hone:∀x,x∈ys->x.cells.all AV.one=true){K:AV->Nat->Hp->Prop}
  (hk:K (.v (.int .i64 (min ys.length len:Nat))) n (set h id (.arr sz (xs.take off++(ys.take len++xs.drop (off+min ys.length len))))))(ats:Array TypeId)(ha0:ats[0]? =some t):
  EGives P E w ι n h (do pure (.value (<-Builtin.copy_ ats ty #[x,y]))) K:=by
 obtain⟨s1,s2,_,s4⟩:=hs;have hso:=lX (P:=P) (w:=w) hsz;have hz:=G9 r hg
 let m:=min ys.length len
 obtain⟨c,c1,c2⟩:=s4 m (Nat.min_le_left _ _);have c1:=c1 w rfl;have htake:ys.take len=ys.take m:=by
  by_cases h:ys.length<=len
  ·rw[aW h,aW (by simp[m,h])]
  ·rw[show m=len by simp only[m];omega]
 have hcs:c.size=m*sz:=by
  rw[<-c2.1,lH (fun x hx=>s2 x (cP hx))]
  congr 1;rw[aV];exact gM (Nat.min_le_left _ _)
 have hlen0:∀a c',x=.slice a len c'->(Builtin.copy_ ats ty #[x,y]).run P w=(match a with
   |some a=>((storeCells a c.toList).run P w).andThen fun _ w'=>.ok (.int .i64 (m:Int)) w'
   |none=>.ok (.int .i64 (m:Int)) w):=by
  intro a c' hx;subst hx;cases a with
  |none=>simp[Builtin.copy_,ha0,run_underlying hu,s1,hso,goInt,m];rw[show min ys.length len=m from rfl,c1];rfl
  |some a=>simp[Builtin.copy_,ha0,run_underlying hu,s1,hso,goInt,m];rw[show min ys.length len=m from rfl,c1];rfl
 have hk':K (.v (.int .i64 (m:Int))) n (set h id (.arr sz (xs.take off++(ys.take m++xs.drop (off+m))))):=by rw[htake]at hk;exact hk
 have hX':=hX;cases hX with
 |osz _ _ _ a=>
  have hm:m=0:=by simp[m]
  have hc:c=#[]:=dA (by rw[hcs,hm,fF]);subst hc;have hxs:(xs.take off++(ys.take m++xs.drop (off+m)))=xs:=by rw[hm];simp
  rw[hxs]at hk';have hs':Sub (set h id (.arr sz xs)) h:=fun i o hi=>by
   unfold set at hi;rw[jA]at hi;split at hi
   ·rename_i e;subst e;cases hi;exact hg
   ·exact Sub.del id i o hi
  exact iW (by rw[hlen0 a 0 rfl];cases a<;>simp[storeCells]) hk' (.v _) (r.sub hs') (Ext.sub hs')
 |os _ _ _ _ b base cap hι hc hcell=>
  rcases r.obj id _ hg with⟨h1,_⟩|⟨b',base',h1,h2,h3,h4,h5⟩
  ·rw[hι]at h1;cases h1
  rw[hι]at h1;cases h1;have hroom:∀j,j<c.toList.length->j<cap*sz:=by
   intro j hj;have:m*sz<=cap*sz:=bZ _ (bC (Nat.min_le_right _ _) hc);simp only[dU]at hj;omega
  have hone':∀x,x∈ys.take m->x.cells.all AV.one=true:=fun x hx=>hone x (cP hx);have hst:=run_storeCells_cells (P:=P) b (base+off*sz) c.toList 0 w (fun j hj=>by simpa using(hcell j (hroom j hj)).1) (fun j hj=>by simpa using(hcell j (hroom j hj)).2) (xV c2 hone');simp only[eN]at hst;have hw:=lS w b c.toList (base+off*sz);have hkw:=hw.keeps (E:=E) h2;have hz2:∀x,x∈ys.take m->x.cells.length=sz:=fun x hx=>s2 x (cP hx);have hml:(ys.take m).length=m:=by rw[aV];exact gM (Nat.min_le_left _ _)
  have hmle:off+(ys.take m).length<=xs.length:=by rw[hml];have:m<=len:=Nat.min_le_right _ _;omega
  have horel:ORel E (w.setCells b (base+off*sz) c.toList) ι id (.arr sz (xs.take off++(ys.take m++xs.drop (off+m)))):=by
   refine Ea hι h2 (by rw[hw.size];exact h3) (fun x hx=>?_) (fun k y hky=>?_)
   ·simp only[aX]at hx;rcases hx with hx|hx|hx
    ·exact hz x (cP hx)
    ·exact hz2 x hx
    ·exact hz x (dZ hx)
   ·have hky':=Ki hz hz2 hmle (by rw[hml];exact hky);rcases hky' with⟨k1,k2,k3⟩|⟨k1,k2⟩
    ·have hlt:k-off*sz<c.size:=by
      rw[<-c2.1];rcases aD (k-off*sz) ((ys.take m).flatMap AV.cells).length with h|h
      ·exact h
      ·rw[bS h]at k3;cases k3
     have hlt':k-off*sz<c.toList.length:=by simpa using hlt
     refine⟨c[k-off*sz],?_,?_,(c2.2 _ y _ k3 (bL hlt)).keep hkw (fun _ _ h=>h)⟩
     ·have:=World.cell?_setCells_in b c.toList (base+off*sz) w (fun j hj=>(hcell j (hroom j hj)).1) _ hlt';rw[show base+off*sz+(k-off*sz)=base+k by omega]at this;rw[this];simp
     ·rw[hw.mark];have:=(hcell _ (hroom _ hlt')).2
      rwa[show base+off*sz+(k-off*sz)=base+k by omega]at this
    ·obtain⟨i,x,j,a1,a2,a3,rfl⟩:=flat_get hz k2;obtain⟨u,hu1,hu2,hu3⟩:=h5 i x j y a1 a2;rw[cD]at hu1 hu2;refine⟨u,?_,by rw[hw.mark];exact hu2,hu3.keep hkw (fun _ _ h=>h)⟩;rw[World.cell?_setCells_out b _ _ w _ (fun _ _=>by
      show base+(i*sz+j)<base+off*sz\/base+off*sz+c.toList.length<=base+(i*sz+j);rw[dU,hcs];rw[hml,cE]at k1;omega)]
     exact hu1
  obtain⟨g1,g2⟩:=oR r (Sub.del id) (m:=id) (n1:=n) hg hι (by rw[kV,aH rfl]) hw (fun _ _ h=>h) hι (fun _ _=>rfl) (aO _) r.fresh horel (by rw[kV,aH rfl]);exact iW (by rw[hlen0 _ cap rfl];simp[hst]) hk' (.v _) g1 g2
theorem Ql(r:Rep ι E w n h){t ty e:TypeId}{id sz off len:Nat}{xs:List AV}{z:AV}{x:Value}(hX:Rel E w ι (.os id sz off len) x)(hu:P.underlying t=some (.slice e))(hz0:oE P e=some z)(hzl:z.cells.length=sz)(hg:get h id=some (.arr sz xs))
  (hle:off+len<=xs.length)(hone:z.cells.all AV.one=true){K:AV->Nat->Hp->Prop}
  (hk:K .junk n (set h id (.arr sz (xs.take off++(List.replicate len z++xs.drop (off+len))))))(ats:Array TypeId)(ha0:ats[0]? =some t):
  EGives P E w ι n h (do pure (.value (<-Builtin.clear_ ats ty #[x]))) K:=by
 obtain⟨zv,i',sz',z1,z2,z3,z4,z5,z6⟩:=oF (E:=E) (w:=w) hz0;have hsz:sz'=sz:=by omega
 subst hsz;have hz:=G9 r hg;have hX':=hX;cases hX with
 |osz _ _ _ a=>
  have hxs:(xs.take off++(List.replicate 0 z++xs.drop (off+0)))=xs:=by simp
  rw[hxs]at hk;have hs':Sub (set h id (.arr sz' xs)) h:=fun i o hi=>by
   unfold set at hi;rw[jA]at hi;split at hi
   ·rename_i e;subst e;cases hi;exact hg
   ·exact Sub.del id i o hi
  exact iW (v:=.tuple #[]) (by cases a<;>simp[Builtin.clear_,ha0,run_underlying hu]) hk (.junk _) (r.sub hs') (Ext.sub hs')
 |os _ _ _ _ b base cap hι hc hcell=>
  rcases cV len with h0|h0
  ·subst h0;have hxs:(xs.take off++(List.replicate 0 z++xs.drop (off+0)))=xs:=by simp
   rw[hxs]at hk;have hs':Sub (set h id (.arr sz' xs)) h:=fun i o hi=>by
    unfold set at hi;rw[jA]at hi;split at hi
    ·rename_i e;subst e;cases hi;exact hg
    ·exact Sub.del id i o hi
   exact iW (v:=.tuple #[]) (by simp[Builtin.clear_,ha0,run_underlying hu]) hk (.junk _) (r.sub hs') (Ext.sub hs')
  rcases r.obj id _ hg with⟨h1,_⟩|⟨b',base',h1,h2,h3,h4,h5⟩
  ·rw[hι]at h1;cases h1
  rw[hι]at h1;cases h1;obtain⟨c,hcd⟩:∃c,c=Builtin.zeroCells zv.cells len:=⟨_,rfl⟩
  have hcs:c.size=len*sz':=by rw[hcd];simp[Builtin.zeroCells,z6]
  have hget:∀q y,((List.replicate len z).flatMap AV.cells)[q]? =some y->∃v,c[q]? =some v/\Rel E w jR y v:=fun q y hq=>by
   have:=tQ z6 z4 hq;rw[<-hcd]at this;exact this
  have hroom:∀j,j<c.toList.length->j<cap*sz':=by
   intro j hj;have:len*sz'<=cap*sz':=bZ _ hc;simp only[dU]at hj;omega
  have hz2:∀x,x∈List.replicate len z->x.cells.length=sz':=fun x hx=>by rw[eU hx];exact z5
  have hrl:RL E w jR ((List.replicate len z).flatMap AV.cells) c:=⟨by rw[lH hz2,hcs];simp,fun q y v hq hv=>by
   obtain⟨u,hu1,hu2⟩:=hget q y hq;rw[hu1]at hv;cases hv;exact hu2⟩
  have hone':∀x,x∈List.replicate len z->x.cells.all AV.one=true:=fun x hx=>by rw[eU hx];exact hone
  have hst:=run_storeCells_cells (P:=P) b (base+off*sz') c.toList 0 w (fun j hj=>by simpa using(hcell j (hroom j hj)).1) (fun j hj=>by simpa using(hcell j (hroom j hj)).2) (xV hrl hone');simp only[eN]at hst;have hw:=lS w b c.toList (base+off*sz');have hkw:=hw.keeps (E:=E) h2;have hml:(List.replicate len z).length=len:=by simp
  have hmle:off+(List.replicate len z).length<=xs.length:=by rw[hml];exact hle
  have horel:ORel E (w.setCells b (base+off*sz') c.toList) ι id (.arr sz' (xs.take off++(List.replicate len z++xs.drop (off+len)))):=by
   refine Ea hι h2 (by rw[hw.size];exact h3) (fun x hx=>?_) (fun k y hky=>?_)
   ·simp only[aX]at hx;rcases hx with hx|hx|hx
    ·exact hz x (cP hx)
    ·exact hz2 x hx
    ·exact hz x (dZ hx)
   ·have hky':=Ki hz hz2 hmle (by rw[hml];exact hky);rcases hky' with⟨k1,k2,k3⟩|⟨k1,k2⟩
    ·obtain⟨u,hu1,hu2⟩:=hget _ _ k3;have hlt:k-off*sz'<c.size:=by
      rcases aD (k-off*sz') c.size with h|h
      ·exact h
      ·rw[fE h]at hu1;cases hu1
     have hlt':k-off*sz'<c.toList.length:=by simpa using hlt
     refine⟨c[k-off*sz'],?_,?_,(hrl.2 _ y _ k3 (bL hlt)).keep hkw (fun _ _ h=>by cases h)⟩
     ·have:=World.cell?_setCells_in b c.toList (base+off*sz') w (fun j hj=>(hcell j (hroom j hj)).1) _ hlt';rw[show base+off*sz'+(k-off*sz')=base+k by omega]at this;rw[this];simp
     ·rw[hw.mark];have:=(hcell _ (hroom _ hlt')).2
      rwa[show base+off*sz'+(k-off*sz')=base+k by omega]at this
    ·obtain⟨i,x,j,a1,a2,a3,rfl⟩:=flat_get hz k2;obtain⟨u,hu1,hu2,hu3⟩:=h5 i x j y a1 a2;rw[cD]at hu1 hu2;refine⟨u,?_,by rw[hw.mark];exact hu2,hu3.keep hkw (fun _ _ h=>h)⟩;rw[World.cell?_setCells_out b _ _ w _ (fun _ _=>by
      show base+(i*sz'+j)<base+off*sz'\/base+off*sz'+c.toList.length<=base+(i*sz'+j);rw[dU,hcs];rw[hml,cE]at k1;omega)]
     exact hu1
  obtain⟨g1,g2⟩:=oR r (Sub.del id) (m:=id) (n1:=n) hg hι (by rw[kV,aH rfl]) hw (fun _ _ h=>h) hι (fun _ _=>rfl) (aO _) r.fresh horel (by rw[kV,aH rfl]);obtain⟨len',rfl⟩:∃l,len=l+1:=⟨len-1,by omega⟩
  exact iW (v:=.tuple #[]) (by subst hcd;simp[Builtin.clear_,ha0,run_underlying hu,z1,hst]) hk (.junk _) g1 g2
theorem EGives.mono{s:Sem Next}{K K':AV->Nat->Hp->Prop}(h1:EGives P E w ι n h s K)(hk:∀x n h,K x n h->K' x n h):EGives P E w ι n h s K':=by
 obtain⟨x,v,w',ι',E',n',h',a,b,c⟩:=h1;exact⟨x,v,w',ι',E',n',h',a,hk _ _ _ b,c⟩
theorem Dg{ats:Array TypeId}{ty t e:TypeId}{a:Option Addr}{l c:Nat}{args:Array Value}(h0:ats[0]? =some t)(hu:P.underlying t=some (.slice e))(ha:args[0]? =some (.slice a l c)):(Builtin.cap_ ats ty args).run P w=.ok (.int .i64 (c:Int)) w:=by
 simp[Builtin.cap_,h0,ha,run_underlying hu,goInt]
theorem arr1{α:Type}{a:Array α}{x:α}(h:a.toList=[x]):a=#[x]:=by
 apply Array.toList_inj.1;simp[h]
theorem P5{α:Type}{a:Array α}{x y:α}(h:a.toList=[x,y]):a=#[x,y]:=by
 apply Array.toList_inj.1;simp[h]
theorem Sx:∀{ys:List AV} {ns:List Int},u8L ys=some ns->ns.length=ys.length/\∀(i:Nat) y,ys[i]? =some y->∃k,ns[i]? =some k/\y=.v (.int .u8 k)
 |[],ns,h=>by simp only[u8L,bN]at h;subst h;exact⟨rfl,fun i y hy=>by simp at hy⟩
 |y::ys,ns,h=>by
  unfold u8L at h;split at h
  ·rename_i h0;cases h0
  ·rename_i k l h0;cases h0;obtain⟨ms,h1,rfl⟩:=bW.1 h;obtain⟨g1,g2⟩:=Sx h1;refine⟨by simp[g1],fun i y hy=>?_⟩;cases i with
   |zero=>simp at hy;exact⟨k,rfl,hy.symm⟩
   |succ i=>obtain⟨k',e1,e2⟩:=g2 i y (by simpa using hy);exact⟨k',by simpa using e1,e2⟩
  ·cases h
/-! ### loops over maps -/
theorem S0{b:Nat}{a a':Option Nat}{s s' c c':Nat}{q q':Array Nat}(hb:w.heap[b]? =some (.mapIter a s q c)):Writes w b (ChangeMaps.setBlock w b (.mapIter a' s' q' c')):=by
 obtain⟨h1,h2⟩:=MapKept.heap_set (o':=.mapIter a' s' q' c') hb;refine⟨rfl,rfl,rfl,by simp[ChangeMaps.setBlock],h2,fun a ha=>?_,fun a=>?_,rfl⟩
 ·by_cases e:a.block=b
  ·exfalso;simp[World.cell?,e,hb]at ha
  ·rw[cell_of_heap (w':=ChangeMaps.setBlock w b (.mapIter a' s' q' c')) (h2 _ e)];exact ha
 ·by_cases e:a.block=b
  ·simp only[World.frozen?,ChangeMaps.setBlock,e,hb,h1]
  ·simp only[World.frozen?,ChangeMaps.setBlock,h2 _ e]
theorem S1{b:Nat}:Writes w b w:=⟨rfl,rfl,rfl,rfl,fun _ _=>rfl,fun _ h=>h,fun _=>rfl,rfl⟩
theorem Rj:∀{l:List MapEntry},(∀e,e∈l->MapKept.IsKey .string e.key)->∃L:List ByteArray,l.map (·.key)=L.map Value.string
 |[],_=>⟨[],rfl⟩
 |e::l,h=>by
  obtain⟨L,hL⟩:=Rj fun x hx=>h x (aS _ hx);have he:=h e zx;cases hk:e.key<;>rw[hk]at he<;>first|exact he.elim|skip
  rename_i s;exact⟨s::L,by simp[hk,hL]⟩
theorem R3(r:Rep ι E w n h){t k e:TypeId}{id:Nat}{v:Value}{f:Value->Option AV}(ht:P.underlying t=some (.map k e))(hX:Rel E w ι (.mp id) v)(hg:mapOf (get h id)=some f){K:AV->Nat->Hp->Prop}
  (hk:Rg f fun τ L=>K (.op n 0) (n+1) ((n,.spc (.it (some id) τ L none))::set h id (.spc (.mt f τ)))):EGives P E w ι n h (do pure (.value (<-Instr.range t v))) K:=by
 obtain⟨o,b',base',es,c,g0,g1,g2,g3,g4,g5⟩:=O0 r hg;cases hX with
 |mp _ b base hι=>
  rw[hι]at g1;cases g1;obtain⟨L,hL⟩:=Rj (l:=es.toList) fun e he=>(g5.ent e he).1;have hmem:∀k,k∈L↔∃x,f (.string k)=some x:=fun k=>by
   have:k∈L↔Value.string k∈es.toList.map (·.key):=by rw[hL];simp
   rw[this,bQ];constructor
   ·rintro⟨en,he,hke⟩
    obtain⟨_,x,h1,_⟩:=g5.ent en he;rw[hke]at h1;exact⟨x,h1⟩
   ·rintro⟨x,hx⟩;exact g5.dom _ _ hx
  have hnd:L.Nodup:=by
   have h1:=g5.st.2.2;rw[hL]at h1;exact List.Pairwise.of_map Value.string (fun a b hab e=>hab (by rw[e])) h1
  have hk:=hk.out (es,c) L hnd hmem;obtain⟨r1,x1⟩:=oR r (Sub.del id) (m:=id) (n1:=n) (ob:=.spc (.mt f (es,c))) g0 hι (by rw[kV,aH rfl]) S1 (fun _ _ h=>h) hι (fun _ _=>rfl) (aO _) r.fresh
   ⟨b',base',hι,g2,g3,_,g4,rfl,g5⟩ (by rw[kV,aH rfl])
  have hl:leftOf es #[]=es:=by unfold leftOf;simp
  have ho:ORel (He E w) (w.alloc (.mapIter (some b') c #[] c)) (ι.set n (some (w.heap.size,0))) n (.spc (.it (some id) (es,c) L none)):=
   ⟨w.heap.size,0,Inj.set_same _,.inr rfl,by simp,_,(MapKept.heap_alloc w _).1,rfl,b',c,#[],c,rfl,fun id' e=>by cases e;exact⟨base',Inj.set_ext r _ _ _ hι⟩,fun x hx=>g5.st.1 x hx,⟨aO _,aO _⟩,by rw[hl];exact hL,fun k e=>by cases e⟩
  obtain⟨r2,x2⟩:=wZ r1 _ (.mapIter (some b') c #[] c) ho;exact iW (by simp[run_range_map w t _ _ b' es c ht g4,Result.andThen]) hk (Rel.op n 0 _ 0 (Inj.set_same _)) r2 (x1.trans x2)
theorem Y4{es:Array MapEntry}{seen:Array Nat}{M1 M2:List MapEntry}{e:MapEntry}(hn:(es.toList.map (·.born)).Nodup)(hM:(leftOf es seen).toList=M1++e::M2):(leftOf es (seen.push e.born)).toList=M1++M2:=by
 have h1:(leftOf es (seen.push e.born)).toList=(leftOf es seen).toList.filter fun x=> !(x.born==e.born):=by
  unfold leftOf;simp only[Array.toList_filter,List.filter_filter];refine List.filter_congr fun x _=>?_;cases hb:(x.born==e.born)<;>cases hs:seen.contains x.born<;>simp_all[Array.contains_push]
 have hs:((leftOf es seen).toList.map (·.born)).Nodup:=by
  unfold leftOf;simp only[Array.toList_filter];exact((List.filter_sublist (l:=es.toList)).map _).nodup hn
 rw[h1,hM,dP,fH];rw[hM,aQ,aR]at hs;obtain⟨_,h3,h4⟩:=eQ.1 hs;have k1:M1.filter (fun x=> !(x.born==e.born))=M1:=dW.2 fun x hx=>by
  have:=h4 x.born (bQ.2 ⟨x,hx,rfl⟩) e.born zx;simp[this]
 have k2:M2.filter (fun x=> !(x.born==e.born))=M2:=dW.2 fun x hx=>by
  have:=(List.nodup_cons.1 h3).1;have:x.born≠e.born:=fun q=>this (q▸bQ.2 ⟨x,hx,rfl⟩);simp[this]
 rw[k1,k2];simp
theorem Ps{xs:List AV}{c:Array Value}(hs:xs.length=c.size)(h:∀(i:Nat) x y,xs[i]? =some x->c.toList[i]? =some y->Rel E w ι x y):Rel E w ι (.tup xs) (.tuple c):=.tup _ _ hs fun i x y hx hy=>h i x y hx (by simpa using hy)
theorem Ni:∀{xs:List AV} {ys:List Value},(∀x y,(x,y)∈xs.zip ys->Rel E w ι x y)->∀(i:Nat) x y,xs[i]? =some x->ys[i]? =some y->Rel E w ι x y:=fun h i x y hx hy=>h x y (by
 refine aG (i:=i) ?_;rw[List.getElem?_zip_eq_some];exact⟨hx,hy⟩)
theorem aXe{a:AV}{u:Value}(h1:Rel E w ι a u):Rel E w ι (.tup [a]) (.tuple #[u]):=Ps rfl (Ni fun x y h=>by simp at h;obtain⟨rfl,rfl⟩:=h;exact h1)
theorem tup2{a b:AV}{u v:Value}(h1:Rel E w ι a u)(h2:Rel E w ι b v):Rel E w ι (.tup [a,b]) (.tuple #[u,v]):=Ps rfl (Ni fun x y h=>by
 simp at h;rcases h with⟨rfl,rfl⟩|⟨rfl,rfl⟩
 ·exact h1
 ·exact h2)
theorem aXf{a b c:AV}{u v z:Value}(h1:Rel E w ι a u)(h2:Rel E w ι b v)(h3:Rel E w ι c z):Rel E w ι (.tup [a,b,c]) (.tuple #[u,v,z]):=Ps rfl (Ni fun x y h=>by
 simp at h;rcases h with⟨rfl,rfl⟩|⟨rfl,rfl⟩|⟨rfl,rfl⟩
 ·exact h1
 ·exact h2
 ·exact h3)
theorem Up(r:Rep ι E w n h){id mid:Nat}{v:Value}{ty:TypeId}{f:Value->Option AV}{τ τ':Array MapEntry×Nat}{L:List ByteArray}{last:Option ByteArray}(hX:Rel E w ι (.op id 0) v)(hg:get h id=some (.spc (.it (some mid) τ L last)))(hm:get h mid=some (.spc (.mt f τ'))){K:AV->Nat->Hp->Prop}
  (hk:Nx (τ'=τ) f L (fun k x L'=>K (.tup [.v (.bool true),.v (.string k),x]) n (set h id (.spc (.it (some mid) τ L' (some k))))) (K (.tup [.v (.bool false)]) n h)):EGives P E w ι n h (do pure (.value (<-Instr.next v false ty))) K:=by
 obtain⟨rfl,hover,hmore⟩:=hk;cases hX with
 |op _ _ b base hι=>
  obtain⟨_,_,e1,e2,e3,o,e4,rfl,bm,since,seen,c0,rfl,hmid,hold,hsc,hkeys,_⟩:=r.obj id _ hg;rw[hι]at e1;cases e1;obtain⟨bb,hb⟩:=hmid mid rfl;obtain⟨_,_,f1,f2,f3,o',f4,rfl,f5⟩:=r.obj mid _ hm;rw[hb]at f1;cases f1;rcases run_next_at (P:=P) w ty b bm since c0 seen τ'.1 τ'.2 e4 f4 hold hsc.1 with⟨hs,hrun⟩|⟨e,he,w1,hw1,hrun⟩
  ·have hl:L=[]:=by
    have:(leftOf τ'.1 seen).toList=[]:=dR (by rw[dU];exact hs);rw[this]at hkeys;simpa using hkeys.symm
   exact iW (by simp[hrun,Result.andThen]) (hover hl) (aXe (.v _)) r Ext.refl
  ·obtain⟨M1,M2,hM⟩:=List.append_of_mem he;rw[hM,aQ,aR]at hkeys;obtain⟨l1,l',rfl,k1,k2⟩:=List.map_eq_append_iff.1 hkeys.symm;obtain⟨k,l2,rfl,k3,k4⟩:=List.map_eq_cons_iff.1 k2;have hes:e∈τ'.1.toList:=by
    have:=he;unfold leftOf at this;simp only[Array.toList_filter]at this;exact(cR.1 this).1
   obtain⟨_,x,q1,q2⟩:=f5.ent e hes;rw[<-k3]at q1;obtain⟨r1,x1⟩:Rep ι E w1 n h/\Ext ι h E w ι h E w1:=by
    rcases hw1 with rfl|rfl
    ·exact⟨r,Ext.refl⟩
    ·exact Em r
   have hr1:w1.heap[b]? =some (.mapIter (some bm) since seen c0):=by rcases hw1 with rfl|rfl<;>exact e4
   have hf1:w1.heap[bm]? =some (.map τ'.1 τ'.2):=by rcases hw1 with rfl|rfl<;>exact f4
   have hwr:=S0 (a':=some bm) (s':=since) (q':=seen.push e.born) (c':=τ'.2) hr1;obtain⟨r2,x2⟩:=oR r1 (Sub.del id) (m:=id) (n1:=n) (ob:=.spc (.it (some mid) τ' (l1++l2) (some k))) hg hι (by rw[kV,aH rfl]) hwr (fun _ _ h=>h) hι (fun _ _=>rfl) (aO _) r1.fresh
    ⟨b,0,hι,e2,by rw[hwr.size];exact r1.bound b e2,_,(MapKept.heap_set hr1).1,rfl,bm,since,seen.push e.born,τ'.2,rfl,fun id' e'=>by cases e';exact⟨bb,hb⟩,hold,⟨hsc.2,hsc.2⟩,
     by rw[Y4 f5.st.2.1 hM,aQ,aQ,k1,k4],fun k' e'=>by cases e';exact⟨e,seen,hes,k3.symm,rfl,rfl⟩⟩ (by rw[kV,aH rfl])
   exact iW (v:=.tuple #[.bool true,e.key,e.val]) (by simp[hrun,Result.andThen]) (hmore l1 k l2 x rfl q1) (aXf (.v _) (by rw[<-k3];exact .v _) ((x1.trans x2).rel r (q2.keep (⟨aO _,fun _ _ h=>⟨rfl,h⟩,fun _ h=>h,fun _ _=>rfl⟩:Keeps E w E w) (fun _ _ h=>by cases h)))) r2 (x1.trans x2)
theorem Qr(r:Rep ι E w n h){id mid:Nat}{v:Value}{f:Value->Option AV}{τ τ':Array MapEntry×Nat}{L:List ByteArray}{k:ByteArray}(hX:Rel E w ι (.op id 0) v)(hg:get h id=some (.spc (.it (some mid) τ L (some k))))(hm:get h mid=some (.spc (.mt f τ'))){K:AV->Nat->Hp->Prop}
  (hk:En (τ'=τ) (f (.string k)) fun x=>K (.tup [.v (.string k),x]) n h):EGives P E w ι n h (do pure (.value (<-Instr.entry v))) K:=by
 obtain⟨rfl,x,hx,hk⟩:=hk;cases hX with
 |op _ _ b base hι=>
  obtain⟨_,_,e1,e2,e3,o,e4,rfl,bm,since,seen,c0,rfl,hmid,hold,hsc,hkeys,hlast⟩:=r.obj id _ hg;rw[hι]at e1;cases e1;obtain⟨bb,hb⟩:=hmid mid rfl;obtain⟨_,_,f1,f2,f3,o',f4,rfl,f5⟩:=r.obj mid _ hm;rw[hb]at f1;cases f1;obtain⟨e,seen',hes,hke,rfl,rfl⟩:=hlast k rfl;obtain⟨_,x',q1,q2⟩:=f5.ent e hes;rw[hke,hx]at q1;cases q1;have hrun:=run_entry_at (P:=P) w b bm since seen' τ'.1 τ'.2 e e4 f4 hes f5.st.2.1;exact iW (v:=.tuple #[e.key,e.val]) (by simp[hrun,Result.andThen]) hk (tup2 (by rw[hke];exact .v _) (q2.keep (⟨aO _,fun _ _ h=>⟨rfl,h⟩,fun _ h=>h,fun _ _=>rfl⟩:Keeps E w E w) (fun _ _ h=>by cases h))) r Ext.refl
theorem Lx(r:Rep ι E w n h){ev:Operand->AV}{ρ:Operand->Value}(hev:∀x,Rel E w ι (ev x) (ρ x)){o:Oper}{K:AV->Nat->Hp->Prop}(hq:eop P n h ev o.op K):EGives P E w ι n h (execOp ρ o) K:=by
 have cast:∀{s s':Sem Next},EGives P E w ι n h s K->s'=s->EGives P E w ι n h s' K:=fun h e=>e▸h;unfold eop at hq;simp only[mZ,nA,wB,Fi]at hq;split at hq<;>rename_i ho<;>try exact hq.elim
 ·split at hq
  ·rename_i z hz;exact cast (P2 r hz hq) (by simp only[execOp,ho])
  ·exact hq.elim
 ·rename_i t x;split at hq
  ·rename_i hs;exact cast (Yb (t:=t) r (tE (hev x)) hs hq) (by simp only[execOp,ho])
  ·exact hq.elim
 ·rename_i t len parts;split at hq;case h_2=>exact hq.elim
  rename_i e hu;split at hq;case h_2=>exact hq.elim
  rename_i sz z hsz hz;split at hq;case h_2=>
   split at hq;case h_2=>exact hq.elim
   rename_i p hp;split at hq;case h_2=>exact hq.elim
   rename_i hb;simp only[aJ]at hb;obtain⟨b1,b2,b3,b4,b5⟩:=hb;have b2:=aY b2;subst b2;exact cast (No (ev:=fun x=>nbA (ev x)) r (fun x=>tE (hev x)) hu hsz hz hp (aY b1) (aY b3) (cB b4) b5 hq) (by simp only[execOp,ho])
  rename_i hb;simp only[aJ]at hb;obtain⟨h1,h2,h3⟩:=hb;split at hq
  ·exact cast (Ii (ev:=fun x=>nbA (ev x)) r (fun x=>tE (hev x)) hu hsz hz (aY h1) (cB h2) h3 hq) (by simp only[execOp,ho])
  ·exact cast (tT (ev:=fun x=>nbA (ev x)) r (fun x=>tE (hev x)) hu hsz hz (aY h1) (cB h2) h3 hq) (by simp only[execOp,ho])
 ·rename_i t a x;split at hq;case h_1=>exact hq.elim
  rename_i m hm;split at hq;case h_1=>exact hq.elim
  rename_i hb;simp only[aJ]at hb;obtain⟨hs,hl⟩:=hb;have hl:=aY hl;have hA:=hev a;have hX:=tE (hev x);split at hq;case h_3=>exact hq.elim
  ·rename_i id off he;rw[he]at hA;split at hq;case h_2=>exact hq.elim
   rename_i cs hg;split at hq;case h_2=>exact hq.elim
   rename_i hb;simp only[aJ]at hb;exact cast (vL r hA hX hg hm hs hl (cB hb.1) hb.2 hq) (by simp only[execOp,ho])
  ·rename_i id sz i off he;rw[he]at hA;split at hq;case h_3=>exact hq.elim
   case h_2=>
    rename_i cs hg;split at hq;case h_2=>exact hq.elim
    rename_i hb;simp only[aJ]at hb;have hA':Rel E w ι (.op id (i*sz+off)) (ρ a):=by
     generalize ρ a=av at hA;cases hA with
     |ep _ _ _ _ b base hι=>
      have:=Rel.op (E:=E) (w:=w) id (i*sz+off) b base hι
      rwa[<-cD]at this
    exact cast (vL r hA' hX hg hm hs hl (cB hb.1) hb.2 hq) (by simp only[execOp,ho])
   rename_i sz' xs hg;split at hq;case h_2=>exact hq.elim
   rename_i hb;simp only[aJ]at hb;obtain⟨hb1,hb2⟩:=hb;have hb1:=aY hb1;subst hb1;obtain⟨e,hei,hq⟩:=hq.elim;cases hle:Nat.ble (off+m) e.cells.length with
   |false=>simp[hle]at hq
   |true=>
    have hle':=cB hle;have fin:∀(hec:e.cells=[e]),(match(nbA (ev x)).cells with
      |[c]=>K .junk n (set h id (.arr sz (xs.set i c)))
      |_=>False)->EGives P E w ι n h (execOp ρ o) K:=by
     intro hec hq2;split at hq2;case h_2=>exact hq2.elim
     rename_i c hc;have hp:c.pure1=true:=by rw[hc]at hb2;simpa using hb2
     have hcc:c.cells=[c]:=by cases c<;>first|rfl|simp[AV.pure1]at hp
     have hm1:m=1:=by rw[<-hl,hc];rfl
     have hoff:off=0:=by rw[hec]at hle';simp at hle';omega
     subst hoff;refine cast (vK r hA hX hg hm hs hl hei hle' hb2 (e':=c) ?_ hq2) (by simp only[execOp,ho]);rw[hcc,hec,hc];rfl
    cases e with
    |agg cs=>
     simp only[hle]at hq;exact cast (vK r hA hX hg hm hs hl hei hle' hb2 rfl hq) (by simp only[execOp,ho])
    |_=>simp only[hle]at hq;exact fin rfl hq
 ·rename_i t l c;split at hq;case h_2=>exact hq.elim
  rename_i e hu;split at hq;case h_2=>exact hq.elim
  rename_i i z hi hz;split at hq;case h_2=>exact hq.elim
  rename_i k lv k' cv hl hc;obtain⟨a,rfl,ha,hq⟩:=hq.elim;obtain⟨b,rfl,hb,hq⟩:=hq.elim;obtain⟨⟨h1,h2⟩,hk⟩:=hq.elim;have h3:=hev l;have h4:=hev c;rw[hl]at h3;rw[hc]at h4;exact cast (Hk (k:=k) (k':=k') r hu hi hz ha hb h1 h2 hk) (by simp only[execOp,ho,mR h3,mR h4])
 ·rename_i t x hi mx;split at hq;case h_2=>exact hq.elim
  rename_i e hu;split at hq;case h_2=>exact hq.elim
  rename_i sz hsz;split at hq;case h_2=>exact hq.elim
  rename_i k a k' b ha hb;have h3:=hev hi;have h4:=hev mx;rw[ha]at h3;rw[hb]at h4;have h3:=mR h3;have h4:=mR h4;have fin:∀(ad:Option Addr) (len cap:Nat),ρ x=.slice ad len cap->a=0/\b=0->K (.os n sz 0 0) (n+1) ((n,.arr sz [])::h)->EGives P E w ι n h (execOp ρ o) K:=by
   rintro ad len cap hx ⟨rfl,rfl⟩ hk
   obtain⟨ι',g1,g2,g3⟩:=qY r (Sub.refl) sz ad;have hz:=lX (P:=P) (w:=w) hsz;have hrun:(Instr.sliceAt t (ρ x) none (some (.int k 0)) (some (.int k' 0))).run P w=.ok (.slice ad 0 0) w:=by
    simp[Instr.sliceAt,Instr.slice,run_underlying hu,hx,Instr.sliceBounds,Instr.sliceBound,asIntOf,hz]
   exact cast (iW hrun hk g1 g2 g3) (by simp only[execOp,ho,dG,Option.map_none,h3,h4])
  have hX:=hev x;split at hq
  ·rename_i hx;rw[hx]at hX;obtain⟨h1,h2⟩:=hq.elim;generalize hv:ρ x=v at hX;cases hX;exact fin _ _ _ hv h1 h2
  ·rename_i xs hx;rw[hx]at hX;obtain⟨h1,h2⟩:=hq.elim;generalize hv:ρ x=v at hX;cases hX<;>exact fin _ _ _ hv h1 h2
  ·rename_i i1 i2 i3 i4 hx;rw[hx]at hX;obtain⟨h1,h2⟩:=hq.elim;generalize hv:ρ x=v at hX;cases hX<;>exact fin _ _ _ hv h1 h2
  ·exact hq.elim
 ·rename_i c;split at hq;case h_6=>exact hq.elim
  ·rename_i hcal;split at hq;case h_2=>exact hq.elim
   rename_i t t' x y ht hx;have ea:=P5 ht;have eb:=P5 hx;have heq:execOp ρ o=(do pure (.value (<-Builtin.append_ #[t,t'] o.type #[ρ x,ρ y]))):=by simp[execOp,ho,resolve,hcal,invoke,builtin,ea,eb]
   split at hq;case h_3=>exact hq.elim
   ·rename_i e' hu';split at hq
    ·rename_i ycs hys;obtain⟨id',sz',he,hgy⟩:=Qd hys;have hY:=hev y;rw[he]at hY;exact cast (P4 r (hev x) hu' hY hgy hq) heq
    refine cast (Ia r (hev x) (fun e i K' hi hs=>?_) hq) heq;obtain⟨ys,h1,h2⟩:=Kl (P:=P) r (hev y) hs;exact⟨ys,⟨h1.2.1,.inl ⟨_,hu',h1⟩⟩,h2⟩
   ·rename_i k' hu';split at hq;case h_2=>exact hq.elim
    rename_i k m hy;obtain⟨m,rfl,hm,hq⟩:=hq.elim;have h3:=hev y;rw[hy]at h3;refine cast (Ia r (hev x) (fun e i K' hi hs=>?_) hq) heq;unfold aWi at hs;split at hs;case h_2=>exact hs.elim
    rename_i z hz;obtain⟨zv,i',sz',z1,z2,z3,z4,z5,z6⟩:=oF (E:=E) (w:=w) hz;rw[hi]at z2;cases z2;refine⟨_,⟨fun x hx=>?_,.inr ⟨_,k,hu',?_,?_,z,hz,by simp⟩⟩,hs⟩
    ·rw[eU hx];omega
    ·rw[mR h3];simp
    ·simpa using hm
  ·rename_i hcal;split at hq;case h_2=>exact hq.elim
   rename_i t t' x y ht hx;have ea:=P5 ht;have eb:=P5 hx;have heq:execOp ρ o=(do pure (.value (<-Builtin.copy_ #[t,t'] o.type #[ρ x,ρ y]))):=by simp[execOp,ho,resolve,hcal,invoke,builtin,ea,eb]
   split at hq;case h_2=>exact hq.elim
   rename_i e hu;split at hq;case h_1=>exact hq.elim
   rename_i sz hsz;split at hq;case h_2=>exact hq.elim
   rename_i id sz' off len he;split at hq;case h_1=>exact hq.elim
   rename_i hs;have hs:=aY hs;subst hs;split at hq;case h_2=>exact hq.elim
   rename_i sz'' xs hg;split at hq;case h_1=>exact hq.elim
   rename_i hs;have hs:=aY hs;subst hs;obtain⟨ys,h1,h2⟩:=Kl (P:=P) r (hev y) hq;obtain⟨⟨h3,h4⟩,hk⟩:=h2.elim;have hX:=hev x;rw[he]at hX;exact cast (Tb (t':=t') r hX hu hsz hg h1 h3 h4 hk _ rfl) heq
  ·rename_i hcal;split at hq;case h_2=>exact hq.elim
   rename_i t x ht hx;have ea:=arr1 ht;have eb:=arr1 hx;have heq:execOp ρ o=(do pure (.value (<-Builtin.clear_ #[t] o.type #[ρ x]))):=by simp[execOp,ho,resolve,hcal,invoke,builtin,ea,eb]
   split at hq;case h_2=>exact hq.elim
   rename_i e hu;split at hq;case h_2=>exact hq.elim
   rename_i z hz0;split at hq;case h_2=>exact hq.elim
   rename_i id sz off len he;split at hq;case h_2=>exact hq.elim
   rename_i sz' xs hg;split at hq;case h_2=>exact hq.elim
   rename_i hb;simp only[aJ]at hb;have hs:=aY hb.1;subst hs;obtain⟨h3,hk⟩:=hq.elim;have hX:=hev x;rw[he]at hX;exact cast (Ql r hX hu hz0 (aY hb.2.1) hg h3 hb.2.2 hk _ rfl) heq
  ·rename_i hcal;split at hq;case h_2=>exact hq.elim
   rename_i t t' x k ht hx;have ea:=P5 ht;have eb:=P5 hx;have heq:execOp ρ o=(do pure (.value (<-Builtin.delete_ #[t,t'] o.type #[ρ x,ρ k]))):=by simp[execOp,ho,resolve,hcal,invoke,builtin,ea,eb]
   split at hq;case h_2=>exact hq.elim
   rename_i e id s hm he hs;split at hq;case h_2=>exact hq.elim
   rename_i f hg;have hX:=hev x;rw[he]at hX;have hk:=hq.elim;rw[xS hs (hev k)]at heq;exact cast (Dk r rfl hm hX hg hk) heq
  ·rename_i hcal;split at hq;case h_2=>exact hq.elim
   rename_i t x ht hx;have ea:=arr1 ht;have eb:=arr1 hx;have heq:execOp ρ o=(do pure (.value (<-Builtin.cap_ #[t] o.type #[ρ x]))):=by simp[execOp,ho,resolve,hcal,invoke,builtin,ea,eb]
   split at hq;case h_2=>exact hq.elim
   rename_i e hu;have hX:=hev x;generalize hxv:ρ x=xv at*;split at hq;case h_4=>exact hq.elim
   ·rename_i he;rw[he]at hX;cases hX;exact cast (iW (Dg rfl hu rfl) hq (.v _) r Ext.refl) heq
   ·rename_i he;rw[he]at hX;cases hX with
    |osz=>exact cast (iW (Dg rfl hu rfl) (hq 0 (aO _)) (.v _) r Ext.refl) heq
    |os _ _ _ _ b base cap hι hc hcell=>exact cast (iW (Dg rfl hu rfl) (hq cap hc) (.v _) r Ext.refl) heq
   ·rename_i he;rw[he]at hX;cases hX with
    |lnil a c=>exact cast (iW (Dg rfl hu rfl) (hq c zx) (.v _) r Ext.refl) heq
    |lst _ b off nn cap sz hE hb hn hcap hz g hg h=>exact cast (iW (Dg rfl hu rfl) (hq cap zo) (.v _) r Ext.refl) heq
 ·rename_i t;split at hq;case h_2=>exact hq.elim
  exact cast (Kz (t:=t) r hq) (by simp only[execOp,ho,Option.map_none])
 ·rename_i t x k ok;split at hq;case h_2=>exact hq.elim
  rename_i e hm;split at hq;case h_2=>exact hq.elim
  rename_i z id s hz he hs;split at hq;case h_2=>exact hq.elim
  rename_i f hg;have hX:=hev x;rw[he]at hX;exact cast (Ox r hm hz hX hg hq) (by simp only[execOp,ho,xS hs (hev k)])
 ·rename_i t x k y;split at hq;case h_2=>exact hq.elim
  rename_i e hm;split at hq;case h_2=>exact hq.elim
  rename_i m id s hz he hs;split at hq;case h_2=>exact hq.elim
  rename_i f hg;split at hq;case h_2=>exact hq.elim
  rename_i hb;simp only[aJ]at hb;have hX:=hev x;rw[he]at hX;have hk:=hq.elim;exact cast (Hl r hm hX (tE (hev y)) hb.1 hg hk) (by simp only[execOp,ho,xS hs (hev k)])
 ·rename_i t x;split at hq;case h_2=>exact hq.elim
  rename_i hu he;split at hq;case h_2=>exact hq.elim
  rename_i f hg;have hX:=hev x;rw[he]at hX;exact cast (R3 r hu hX hg hq) (by simp only[execOp,ho])
 ·rename_i it;split at hq;case h_2=>exact hq.elim
  rename_i id he;split at hq;case h_2=>exact hq.elim
  rename_i hg;split at hq;case h_2=>exact hq.elim
  rename_i hm;have hX:=hev it;rw[he]at hX;exact cast (Up (ty:=o.type) r hX hg hm hq) (by simp only[execOp,ho])
 ·rename_i it;split at hq;case h_2=>exact hq.elim
  rename_i id he;split at hq;case h_2=>exact hq.elim
  rename_i hg;split at hq;case h_2=>exact hq.elim
  rename_i hm;have hX:=hev it;rw[he]at hX;exact cast (Qr r hX hg hm hq) (by simp only[execOp,ho])
 ·rename_i src dst x;split at hq;case h_2=>exact hq.elim
  rename_i e hsrc hdst;split at hq;case h_2=>exact hq.elim
  rename_i he;have hX:=hev x;split at hq;case h_2=>exact hq.elim
  rename_i id sz off len hx;rw[hx]at hX;split at hq;case h_2=>exact hq.elim
  rename_i sz' xs hg;split at hq;case h_2=>exact hq.elim
  rename_i hb;simp only[aJ]at hb;have h1:=aY hb.1;have h2:=aY hb.2;subst h1;subst h2;obtain⟨hl,hq⟩:=hq.out;split at hq;case h_2=>exact hq.elim
  rename_i ns hns;obtain⟨hlen,hat⟩:=Sx hns;have hnl:ns.length=len:=by rw[hlen,aV,cH];omega
  have hrun:(convert src dst (ρ x)).run P w=.ok (.string (strOfNums ns)) w:=by
   generalize hxv:ρ x=xv at hX;cases hX with
   |osz _ _ _ a=>
    have:ns=[]:=dR zo;subst this;rw[run_convert_bytes_string w src dst e _ 0 _ hsrc he hdst];cases a with
    |none=>rfl
    |some a=>
     have hl:=run_loadCells_list (P:=P) w a [] (fun j v hj=>by simp at hj);exact run_bytesToString w a 0 0 [] hl
   |os _ _ _ _ b base cap hι hc hcell=>
    rcases r.obj id _ hg with⟨g1,_⟩|⟨b',base',g1,g2,g3,g4,g5⟩
    ·rw[hι]at g1;cases g1
    ·rw[hι]at g1;cases g1;refine run_convert_bytes_arg w src e hsrc he b (base+off*1) len cap ns hnl (fun i hi=>?_) dst hdst;have hxi:((xs.drop off).take len)[i]? =some xs[off+i]:=by
      rw[cZ,aH hi,cJ,aE zo]
     obtain⟨k,e1,e2⟩:=hat i _ hxi;obtain⟨u,hu,_,hr⟩:=g5 (off+i) xs[off+i] 0 (.v (.int .u8 k)) (aE zo) (by rw[e2];rfl);cases mR hr;rw[List.getD_eq_getElem?_getD,e1];rw[show base+off*1+i=base+(off+i)*1+0 by omega];exact hu
  exact cast (iW hrun hq (.v _) r Ext.refl) (by simp only[execOp,ho])
end
end Go.Vm
