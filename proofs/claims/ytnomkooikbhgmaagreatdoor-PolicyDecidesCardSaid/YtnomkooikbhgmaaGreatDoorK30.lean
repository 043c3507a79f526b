/- Lemmas. -/
import Derived.Shelf.SlSortCmp.WholeK
import Derived.Shelf.SlSortCmp.NoneTotal
import Derived.Test.YtnomkooikbhgmaaGreatDoorK29
set_option linter.unusedVariables false
set_option linter.unusedSimpArgs false
set_option maxRecDepth 100000
set_option maxHeartbeats 4000000
namespace Go.Vm
open Go.Sort Go.Proofs Go.Shelf
theorem aDL(W:World)(hg:GlobOk (fun _=>False) W):Rep jO (fun _=>False) W ([]:List Obj).length (iV 0 []):=
 ⟨fun _ _=>rfl,fun id o hg=>by simp[iV,get]at hg,fun id id' o o' b base base' hg=>by simp[iV,get]at hg,fun b hb=>hb.elim,hg⟩
theorem Q5{W w':World}{ι':Inj}{h':Hp}{E':Nat->Prop}(x:Ext jO (iV 0 []) (fun _=>False) W ι' h' E' w'):∃q os',w'=grow (W.drewN q) os':=by
 have hno:∀b,¬Own jO (iV 0 []) b:=fun b ⟨id,o,base,hg,_⟩=>by simp[iV,get]at hg
 refine⟨w'.drawn-W.drawn,w'.heap.extract W.heap.size w'.heap.size,?_⟩;have hh:w'.heap=W.heap++w'.heap.extract W.heap.size w'.heap.size:=by
  apply Array.ext_getElem?;intro i;rw[Array.getElem?_append];split
  ·rename_i hi;exact(x.old i hi (hno i)).1
  ·rename_i hi;rw[Array.getElem?_extract];have hsz:=x.size;split
   ·congr 1;omega
   ·rw[eV];omega
 have hd:=x.drawn;have h1:=x.os;have h2:=x.tape;have h3:=x.output;cases w';cases W;simp only[grow,World.drewN]at*;subst h1;subst h2;subst h3
 congr 1
 omega
section
variable {P:Program} {α:Type} [Inhabited α]
theorem Tb{g:Nat}{enc:α->List Value}{k:Nat}{cf:α->α->Int}{blk off size:Nat}{w:World}(hgl:∀(m:Nat) (os:Array Go.Obj) (dk:Array α),GlobOk (fun _=>False) (sortWorldK enc k w blk off m dk os))
  (h:∀x y:α,ACall P g [.agg ((enc x).map .v),.agg ((enc y).map .v)] [] fun r hs=>r=.v (.int .i64 (cf x y))/\hs=[]):CmpLays P g #[] enc k cf blk off size w:=by
 intro m os dk _ x y;have hgW:=hgl m os dk;generalize sortWorldK enc k w blk off m dk os=W at hgW⊢;obtain⟨_,h2⟩:=(h x y).elim;have one:∀z:α,Rel (fun _=>False) W jO (.agg ((enc z).map .v)) (.agg (enc z).toArray):=fun z=>
  .agg _ _ zx (fun i a b ha hb=>by
   have hb':(enc z)[i]? =some b:=by simpa using hb
   rw[bO,hb']at ha;cases ha;exact .v _)
 have hv:RL (fun _=>False) W jO [.agg ((enc x).map .v),.agg ((enc y).map .v)] #[.agg (enc x).toArray,.agg (enc y).toArray]:=RL.cons (one x) (RL.cons (one y) oZ);rw[Array.append_empty];refine(h2 jO _ W _ (aDL W hgW) hv).mono ?_
 rintro e w' ⟨v,rv,hs',ι',E',rfl,⟨rfl,rfl⟩,_,hr,x⟩
 cases hr;exact⟨rfl,Q5 x⟩
variable {E:Nat->Prop} {w:World} {ι:Inj} {n:Nat} {h:Hp}
theorem GlobOk.none{E:Nat->Prop}{w:World}(h:GlobOk E w):GlobOk (fun _=>False) w:=fun g cs hg=>by
 obtain⟨_,h2,h3⟩:=h g cs hg;exact⟨fun f=>f,h2,h3⟩
theorem X3{E:Nat->Prop}{w:World}(h:GlobOk E w)(m:Nat)(os:Array Go.Obj):GlobOk E (grow (Sort.ahead w m) os):=fun g cs hg=>by
 obtain⟨h1,h2,h3⟩:=h g cs hg;refine⟨h1,?_,fun j y hy=>?_⟩
 ·rw[size_grow];exact cO h2 (Nat.le_add_right _ _)
 ·rw[jW (a:=⟨g,j,Option.none⟩) (heap_grow_old (Sort.ahead w m) os h2)];exact h3 j y hy
theorem aDJ(r:Rep ι E w n h)(m:Nat)(os:Array Go.Obj):Rep ι E (grow (Sort.ahead w m) os) n h/\Ext ι h E w ι h E (grow (Sort.ahead w m) os):=by
 have hh:∀b,b<w.heap.size->(grow (Sort.ahead w m) os).heap[b]? =w.heap[b]? :=fun b hb=>heap_grow_old (Sort.ahead w m) os hb;have hsz:w.heap.size<=(grow (Sort.ahead w m) os).heap.size:=by rw[size_grow];exact Nat.le_add_right _ _
 have hc:∀a:Addr,a.block<w.heap.size->(grow (Sort.ahead w m) os).cell? a=w.cell? a:=fun a ha=>jW (hh _ ha);have hf:∀a:Addr,a.block<w.heap.size->(grow (Sort.ahead w m) os).frozen? a=w.frozen? a:=fun a ha=>by simp only[World.frozen?,hh _ ha]
 have hk:Keeps E w E (grow (Sort.ahead w m) os):=⟨hsz,fun b hb hE=>⟨hh b hb,hE⟩,fun a ha=>by rw[hc a (nP ha)];exact ha,fun a ha=>hf a (nP ha)⟩
 exact⟨⟨r.fresh,fun id o hg=>(r.obj id o hg).keep hk (fun _ _ h=>h) (fun b base hb=>r.own_E ⟨id,o,base,hg,hb⟩) (fun b base hb=>hh b (oI r hg hb)),r.sep,fun b hb=>cO (r.bound b hb) hsz,r.glob.keep hk⟩,
  ⟨rfl,rfl,rfl,hsz,fun _ _ h=>h,fun b hb _=>⟨hh b hb,Iff.rfl⟩,fun _ _ h=>h,fun a ha=>by rw[hc a (nP ha)];exact ha,fun a ha=>hf a ha,by show w.drawn<=w.drawn+m;omega⟩⟩
theorem Ik(d:Array Value)(w:World)(b off:Nat)(a:Addr)(h:(w.cell? a).isSome=true):((putRow id w b off d).cell? a).isSome=true:=by
 by_cases hb:a.block=b
 ·subst hb;unfold putRow mapBlock;simp only[World.cell?,gI,if_true]at h⊢;cases hw:w.heap[a.block]? with
  |none=>simp[hw]at h
  |some o=>
   cases o with
   |cells c e fr=>
    simp only[hw,dF,onCells]at h⊢;split at h
    ·simp at h
    ·rename_i hs;simp only[hs];simp only[bT,if_false]at h⊢;rw[fW]at h⊢;obtain⟨v,hv⟩:=h;have hlt:=(eZ.1 hv).1;exact⟨_,bJ (by simpa[putCells]using hlt)⟩
   |_=>simp[hw]at h
 ·rw[show(putRow id w b off d).cell? a=w.cell? a from cell?_putRow_other id w b off d a (Or.inl hb)];exact h
theorem Kn(d:Array Value)(w:World)(b off:Nat)(a:Addr):(putRow id w b off d).frozen? a=w.frozen? a:=by
 unfold putRow mapBlock World.frozen?;simp only[gI];by_cases hb:b=a.block
 ·subst hb;simp only[if_true];cases w.heap[a.block]? with
  |none=>rfl
  |some o=>cases o<;>rfl
 ·simp[hb]
theorem zC(d:Array Value)(w:World)(b off:Nat):Writes w b (putRow id w b off d):=
 ⟨rfl,rfl,rfl,by simp,fun k hk=>by simp[putRow,mapBlock,gI,Ne.symm hk],fun a ha=>Ik d w b off a ha,fun a=>Kn d w b off a,rfl⟩
theorem aIM{f g k:Nat}{enc:α->List Value}{encA:α->AV}{cf:α->α->Int}(hok:Kq P f=true)(hk:∀x,(enc x).length=k)(henc:∀x,(encA x).cells=(enc x).map .v)
  (hsort:∀(blk off cap:Nat) (d:Array α) (w:World),HoldsK enc k w blk off d->blk<w.heap.size->d.size<4611686018427387904->(∀(m:Nat) (os:Array Go.Obj) (dk:Array α),GlobOk (fun _=>False) (sortWorldK enc k w blk off m dk os))->
   Calls P f #[.slice (some ⟨blk,off,none⟩) d.size cap,.func (.func g) #[] #[]] w fun e w'=>e=.returned (.tuple #[])/\∃d' n os,PermIn 0 d.size d d'/\SortedIn (ltOf cf) 0 d.size d'/\w'=sortWorldK enc k w blk off n d' os)
  (hnone:∀(p:Option Addr) (cap:Nat) (fv:Value) (w:World),Calls P f #[.slice p 0 cap,fv] w fun e w'=>e=.returned (.tuple #[])/\w'=w)
  {d:List α}{len:Nat}(hlen:len=d.length)(hd:d.length<4611686018427387904){K:KT}
  (hK:∀d':List α,d'.Perm d->d'.Pairwise (fun x y=>ltOf cf y x=false)->K (.tup []) [.arr k (d'.map encA)]):
  ACall P f [.os 0 k 0 len,.fn (.func g) [] []] [.arr k (d.map encA)] K:=by
 refine ACall.intro hok fun ι E w vals r hv=>?_;obtain⟨v0,vs,rfl,hv0,hv⟩:=hv.head;obtain⟨v1,vs,e1,hv1,hv2⟩:=hv.head;cases e1;have hvs:vs=[]:=by have:=hv2.nil;simpa using this
 subst hvs;have hfn:v1=.func (.func g) #[] #[]:=by
  cases hv1 with
  |fn _ _ _ F C hF hC _ _=>
   simp only[aG]at hF hC;rw[dG hF.symm,dG hC.symm]
 subst hfn;have hg:get (iV 0 [.arr k (d.map encA)]) 0=some (.arr k (d.map encA)):=rfl;rcases cK d.length with h0|h0
 ·have hd0:d=[]:=eC h0;subst hd0;have hz:∃p cap,v0=.slice p 0 cap:=by
   subst hlen;cases hv0 with
   |osz _ _ _ a=>exact⟨a,0,rfl⟩
   |os _ _ _ _ b base cap hι hc h=>exact⟨_,cap,rfl⟩
  obtain⟨p,cap,rfl⟩:=hz;refine(hnone p cap _ w).mono ?_
  rintro e w' ⟨rfl,rfl⟩
  exact⟨_,.tup [],[.arr k []],ι,E,rfl,hK [] (List.Perm.refl _) List.Pairwise.nil,r,.tup [] #[] rfl (fun i x y hx _=>by simp at hx),Ext.refl⟩
 ·have hpos:0<len:=by omega
  cases hv0 with
  |osz _ _ _ a=>omega
  |os _ _ _ _ b base cap hι hc hcell=>
   have hsz:=G2 r hg;rcases r.obj 0 _ hg with⟨h1,_⟩|⟨b',base',h1,h2,h3,h4,h5⟩
   ·rw[hι]at h1;cases h1
   ·rw[hι]at h1;cases h1;have hbang:∀{l:List α} {i:Nat} (hi:i<l.length),l.toArray[i]! =l[i]:=fun {l i} hi=>by simp[hi]
    have hH:HoldsK enc k w b base d.toArray:=by
     intro t ht;have ht':t<d.toArray.size*k:=by simpa using ht
     have kp:0<k:=by
      rcases cK k with h0|h0
      ·subst h0;simp at ht'
      ·exact h0
     have hi:t/k<d.length:=by
      rw[gJ kp];simpa using ht'
     have hc:=Nat.mod_lt t kp;rw[get_flatK _ _ _ _ ht',hbang hi];have hxi:(d.map encA)[t/k]? =some (encA d[t/k]):=by simp[hi]
     have hcl:(enc d[t/k])[t%k]? =some ((enc d[t/k])[t%k]'(by rw[hk];exact hc)):=aE _;have hcc:(encA d[t/k]).cells[t%k]? =some (.v ((enc d[t/k])[t%k]'(by rw[hk];exact hc))):=by rw[henc,bO,hcl];rfl
     obtain⟨u,e1,e2,e3⟩:=h5 _ _ _ _ hxi hcc;have hu:u=(enc d[t/k])[t%k]'(by rw[hk];exact hc):=by cases e3;rfl
     have hoff:base+t/k*k+t%k=base+t:=by
      have:=Nat.div_add_mod t k;rw[gH]at this;omega
     rw[hoff]at e1 e2;refine⟨?_,e2⟩;rw[e1,hu,getElem!_pos (enc d[t/k]) (t%k) (by rw[hk];exact hc)];rfl
    have hgl:∀(m:Nat) (os:Array Go.Obj) (dk:Array α),GlobOk (fun _=>False) (sortWorldK enc k w b base m dk os):=fun m os dk=>by
     have g1:=r.glob.keep ((zC (Go.Sort.flatK enc k dk) w b base).keeps h2);exact(X3 g1 m os).none
    have h:=hsort b base cap d.toArray w hH h3 (by simpa using hd) hgl;rw[show base+0*k=base by omega,hlen,show d.length=d.toArray.size by simp];refine h.mono ?_
    rintro e w' ⟨rfl,d',m,os,hp,hs,rfl⟩
    obtain⟨p1,p2,p3⟩:=hp;have hd':d'.size=d.length:=by simpa using p1
    have hH':=holdsK_sortWorldK_c enc k w b base d.toArray d' m os hH h3 p1;have hperm:d'.toList.Perm d:=by
     have e1:(d'.extract 0 d.toArray.size)=d':=by rw[<-p1];simp
     rw[e1]at p3;simpa using p3
    refine⟨_,.tup [],[.arr k (d'.toList.map encA)],ι,E,rfl,hK _ hperm ?_,?_⟩
    ·rw[cJ];intro i j hi hj hij;have:=hs i j (aO _) hij (by simp at hj;simpa[<-hd']using hj);simp at hi hj;rw[getElem!_pos d' i hi,getElem!_pos d' j hj]at this;simpa using this
    · -- the world: drawn on, the row put, blocks laid behind
      have e0:sortWorldK enc k w b base m d' os=grow (Sort.ahead (putRow id w b base (Go.Sort.flatK enc k d')) m) os:=rfl;have ho:ORel E (putRow id w b base (Go.Sort.flatK enc k d')) ι 0 (.arr k (d'.toList.map encA)):=by
       refine .inr ⟨b,base,hι,h2,by simpa using h3,fun i x hx=>?_,fun i x j c hx hc=>?_⟩
       ·rw[bO,bS]at hx;obtain⟨y,_,rfl⟩:=hx;rw[henc,aA,hk]
       ·rw[bO,bS]at hx;obtain⟨y,hy,rfl⟩:=hx;rw[henc,bO,bS]at hc;obtain⟨u,hu,rfl⟩:=hc;have hi:i<d'.size:=by have:=(aP.1 hy).1;simpa using this
        have hj:j<k:=by have:=(aP.1 hu).1;rwa[hk]at this
        have hHp:=holdsK_putRowK enc k w b base d.toArray d' hH p1;have:=HoldsK.cell hHp hi hj;have ey:d'[i]! =y:=by
         rw[getElem!_pos d' i hi];have:d'.toList[i]? =some d'[i]:=by simp[hi]
         rw[this]at hy;exact bG hy
        rw[ey,getElem!_pos (enc y) j (by rw[hk];exact hj)]at this;have eu:(enc y)[j]'(by rw[hk];exact hj)=u:=by
         rw[aE (by rw[hk];exact hj)]at hu;exact bG hu
        rw[eu]at this;exact⟨u,this.1,this.2,.v _⟩
      have hput:=oO (h0:=[]) r (fun id o hg=>by simp[get]at hg) hg hι rfl (zC (Go.Sort.flatK enc k d') w b base) (fun _ _ h=>h) hι (fun _ _=>rfl) (aK _) r.fresh ho rfl;have hgr:=aDJ hput.1 m os;rw[e0];exact⟨hgr.1,.tup [] #[] rfl (fun i x y hx _=>by simp at hx),hput.2.trans hgr.2⟩
end
end Go.Vm
namespace Go.Proofs.YtnomkooikbhgmaaGreatDoor
open Go Go.Vm Go.Sort Go.Shelf Go.Proofs
instance:Inhabited Rg:=⟨⟨0,0,by decide,by decide,by decide,by decide⟩⟩
def aLw(r:Rg):List Value:=[.int .u32 r.lo,.int .u32 r.hi]
def aAh(r s:Rg):Int:=G9 r.lo s.lo
theorem ltR(r s:Rg):ltOf aAh r s=decide (r.lo<s.lo):=by
 unfold ltOf aAh G9;by_cases h1:r.lo<s.lo
 ·simp[h1]
 ·by_cases h2:s.lo<r.lo<;>simp[h1,h2]
theorem aVe:SWO (ltOf aAh) where
 irrefl x:=by rw[ltR];simp
 trans x y z h1 h2:=by rw[ltR]at*;simp at*;omega
 ntrans x y z h1 h2:=by rw[ltR]at*;simp at*;omega
theorem aJV:aJe:=by
 intro d n hn hd K hK;have eg:∀args w,(callFunc 267 args).run Tryz.prog w=.ok (.enter 267 args) w:=enters_of Tryz.func267 zk rfl;refine aIM (k:=2) (enc:=aLw) (encA:=jR) (cf:=aAh) zk (fun _=>rfl) (fun _=>rfl) (fun blk off cap d w hH hb hs hgl=>?_) (fun p cap fv w=>?_) hn zo (fun d' hp hs=>hK d' hp (hs.imp fun h=>?_))
 ·exact AnyQ.slices_SortFunc Tryz.sortR 2 Tryz.isAgg96 Tryz.sizeOf96 aLw (fun _=>rfl) (fun x v hv=>by simp[aLw]at hv;rcases hv with rfl|rfl<;>rfl) aAh aVe 267 #[] blk off cap d w eg
   (Tb hgl fun x y=>c47 x y ⟨rfl,rfl⟩) hH hb hs
 ·exact AnyF.slices_SortFunc_none Tryz.sortR p cap fv w
 ·rw[ltR]at h;simp at h;omega
open Go Go.Vm
theorem k39(l:List Rg)(hl:l.length<100000){K:KT}(hK:∀c,jC c->(∀v,has c v=has l v)->c.length<=l.length->K (iH c) []):AC 206 [iH l] [] K:=c39 aJV l hl hK
theorem c18(a b:List Rg)(ha:a.length<900)(hb:b.length<900){K:KT}(hK:∀c,jC c->(∀v,has c v=(has a v||has b v))->c.length<=a.length+b.length->K (iH c) []):AC 135 [iH a,iH b] [] K:=by
 refine aUG rfl rfl ?_
 iterate 4 (all_goals((conv=>whnf);first|refine zG ?_|apply zA|intro h|exact zT|skip))
 refine c40 [a,b] zx (fun l hl=>by
  simp only[aV,dR,or_false]at hl;rcases hl with rfl|rfl<;>omega) ?_
 (conv=>whnf)
 refine k39 [a,b].flatten (by simp;omega) fun c h1 h2 h3=>?_;(conv=>whnf)
 refine hK c h1 (fun v=>?_) (by simpa using h3);rw[h2];simp[has]
structure IInv (A B:List Rg) (i j:Nat) (out:List Rg):Prop where
 canon:jC out
 sep:∀s,s∈out->∀v,has (A.drop i) v=true->has (B.drop j) v=true->s.hi+1<v
 mem:∀v,(has A v&&has B v)=(has out v||(has (A.drop i) v&&has (B.drop j) v))
 len:out.length<=i+j
theorem qX(r:Rg)(l:List Rg)(v:Int):has (r::l) v=((decide (r.lo<=v)&&decide (v<=r.hi))||has l v):=by simp[has]
theorem tA{l:List Rg}{i:Nat}{r:Rg}(h:l[i]? =some r):l.drop i=r::l.drop (i+1):=by
 obtain⟨h1,h2⟩:=aP.1 h;rw[bB h1,h2]
theorem zE{l:List Rg}(h:jC l){i:Nat}{r:Rg}(hr:l[i]? =some r){v:Int}(hv:has (l.drop (i+1)) v=true):r.hi+1<v:=by
 obtain⟨s,hs,h1,h2⟩:=has_iff.1 hv;obtain⟨j,hj⟩:=List.getElem?_of_mem hs;rw[cD]at hj;have:=cJ.1 h.2 i (i+1+j) (aP.1 hr).1 (aP.1 hj).1 zo;rw[(aP.1 hr).2,(aP.1 hj).2]at this;omega
theorem rN{l:List Rg}(h:jC l){i:Nat}{r:Rg}(hr:l[i]? =some r){v:Int}(hv:v<=r.hi+1):has (l.drop (i+1)) v=false:=by
 cases hb:has (l.drop (i+1)) v with
 |false=>rfl
 |true=>have:=zE h hr hb;omega
def uA(out:List Rg)(r s:Rg):List Rg:=if max r.lo s.lo<=min r.hi s.hi then out++[mkR (max r.lo s.lo) (min r.hi s.hi)]else out
theorem Lb(out:List Rg)(r s:Rg)(v:Int):has (uA out r s) v=(has out v||((decide (r.lo<=v)&&decide (v<=r.hi))&&(decide (s.lo<=v)&&decide (v<=s.hi)))):=by
 have b1:=r.l0;have b2:=r.l1;have b3:=r.h0;have b4:=r.h1;have d1:=s.l0;have d2:=s.l1;have d3:=s.h0;have d4:=s.h1;unfold uA;split
 ·rw[nN,tC,kC zo zo zo zo,kO zo zo zo zo]
  congr 1
  rw[bK];simp only[aJ,aM];omega
 ·rename_i h;have:((decide (r.lo<=v)&&decide (v<=r.hi))&&(decide (s.lo<=v)&&decide (v<=s.hi)))=false:=by
   cases hb:((decide (r.lo<=v)&&decide (v<=r.hi))&&(decide (s.lo<=v)&&decide (v<=s.hi)))with
   |false=>rfl
   |true=>simp only[aJ,aM]at hb;omega
  rw[this,Bool.or_false]
theorem Gf{A B:List Rg}{i j:Nat}{out:List Rg}{r s:Rg}(h:IInv A B i j out)(hr:A[i]? =some r)(hs:B[j]? =some s):jC (uA out r s)/\(uA out r s).length<=i+j+1:=by
 have b1:=r.l0;have b2:=r.l1;have b3:=r.h0;have b4:=r.h1;have d1:=s.l0;have d2:=s.l1;have d3:=s.h0;have d4:=s.h1;have hl:=h.len;unfold uA;split
 ·rename_i hle;have e1:=kC (show 0<=max r.lo s.lo by omega) zo (show 0<=min r.hi s.hi by omega) zo;have e2:=kO (show 0<=max r.lo s.lo by omega) zo (show 0<=min r.hi s.hi by omega) zo;refine⟨kL h.canon (by rw[e1,e2];exact hle) (fun t ht=>?_),by simp;omega⟩;rw[e1];refine h.sep t ht _ ?_ ?_
  ·rw[tA hr,qX,bR,aJ,aM,aM];left;omega
  ·rw[tA hs,qX,bR,aJ,aM,aM];left;omega
 ·exact⟨h.canon,by omega⟩
theorem Io{out:List Rg}{r s t:Rg}(ht:t∈uA out r s):t∈out\/(t.hi<=r.hi/\t.hi<=s.hi):=by
 have b1:=r.l0;have b2:=r.l1;have b3:=r.h0;have b4:=r.h1;have d1:=s.l0;have d2:=s.l1;have d3:=s.h0;have d4:=s.h1;unfold uA at ht;split at ht
 ·rcases aY.1 ht with ht|ht
  ·exact .inl ht
  ·simp at ht;subst ht;right;rw[kO zo zo zo zo];omega
 ·exact .inl ht
theorem Lt{A B:List Rg}{i j:Nat}{out:List Rg}{r s:Rg}(hA:jC A)(hB:jC B)(h:IInv A B i j out)(hr:A[i]? =some r)(hs:B[j]? =some s)(hlt:r.hi<s.hi):IInv A B (i+1) j (uA out r s):=by
 obtain⟨c1,c2⟩:=Gf h hr hs;refine⟨c1,fun t ht v h1 h2=>?_,fun v=>?_,by omega⟩
 ·rcases Io ht with ht|ht
  ·exact h.sep t ht v (by rw[tA hr,qX,h1,Bool.or_true]) h2
  ·have:=zE hA hr h1;omega
 ·rw[h.mem,Lb,tA hr,qX,tA hs,qX];rcases dW (r.hi) v with h1|h1
  ·rw[show decide (v<=r.hi)=false from decide_eq_false zo];simp
  ·rw[rN hA hr zo,rN hB hs zo];cases has out v<;>cases (decide (r.lo<=v)&&decide (v<=r.hi))<;>cases (decide (s.lo<=v)&&decide (v<=s.hi))<;>rfl
theorem Jh{A B:List Rg}{i j:Nat}{out:List Rg}{r s:Rg}(hA:jC A)(hB:jC B)(h:IInv A B i j out)(hr:A[i]? =some r)(hs:B[j]? =some s)(hge:s.hi<=r.hi):IInv A B i (j+1) (uA out r s):=by
 obtain⟨c1,c2⟩:=Gf h hr hs;refine⟨c1,fun t ht v h1 h2=>?_,fun v=>?_,by omega⟩
 ·rcases Io ht with ht|ht
  ·exact h.sep t ht v h1 (by rw[tA hs,qX,h2,Bool.or_true])
  ·have:=zE hB hs h2;omega
 ·rw[h.mem,Lb,tA hr,qX,tA hs,qX];rcases dW (s.hi) v with h1|h1
  ·rw[show decide (v<=s.hi)=false from decide_eq_false zo];simp
  ·rw[rN hA hr zo,rN hB hs zo];cases has out v<;>cases (decide (r.lo<=v)&&decide (v<=r.hi))<;>cases (decide (s.lo<=v)&&decide (v<=s.hi))<;>rfl
theorem c19(a b:List Rg)(ha:a.length<10000)(hb:b.length<10000){K:KT}
  (hK:∀out,jC out->(∀v,has out v=(has a v&&has b v))->out.length<=a.length+b.length->K (iH out) []):AC 261 [iH a,iH b] [] K:=by
 refine aUH rfl rfl ?_;(conv=>whnf)
 refine k39 a zo fun A g1 g2 g3=>?_;(conv=>whnf)
 refine k39 b zo fun B f1 f2 f3=>?_;(conv=>whnf)
 refine gM (Nat×Nat×List Rg) (fun g=>⟨1,[(0,.arr 2 (g.2.2.map jR))],[(0,iH A),(1,iH B),(5,.os 0 2 0 g.2.2.length),(6,.v (.int .i64 g.1)),(7,.v (.int .i64 g.2.1))]⟩)
  (fun g=>g.1<=A.length/\g.2.1<=B.length/\IInv A B g.1 g.2.1 g.2.2) (fun g=>(A.length-g.1)+(B.length-g.2.1)) (0,0,[]) ?_ ?_ ?_
 ·exact⟨aO _,aO _,rT,fun s hs=>by simp at hs,fun v=>by simp[oS],aK _⟩
 ·exact⟨[(0,0)],rfl,⟨rfl,rfl,rfl,rfl,rfl,trivial⟩,⟨rfl,trivial⟩⟩
 ·rintro⟨i,j,out⟩ ⟨hi,hj,hinv⟩
  simp only at hi hj hinv⊢;have hlen:=hinv.len;have fin:(∀v,(has (A.drop i) v&&has (B.drop j) v)=false)->K (iH out) []:=fun he=>
   hK out hinv.canon (fun v=>by rw[<-g2,<-f2,hinv.mem,he,Bool.or_false]) zo
  rcases aC i A.length with hil|hil
  ·rcases aC j B.length with hjl|hjl
   ·obtain⟨r,hr⟩:=gex hil;obtain⟨s,hs⟩:=gex hjl;have b1:=r.l0;have b2:=r.l1;have b3:=r.h0;have b4:=r.h1;have d1:=s.l0;have d2:=s.l1;have d3:=s.h0;have d4:=s.h1;have e0:max r.lo s.lo<=min r.hi s.hi->uA out r s=out++[mkR (max r.lo s.lo) (min r.hi s.hi)]:=fun h=>by unfold uA;rw[aH h]
    have e1:¬max r.lo s.lo<=min r.hi s.hi->uA out r s=out:=fun h=>by unfold uA;rw[aF h]
    have e2:=Du (show 0<=max r.lo s.lo by omega) zo (show 0<=min r.hi s.hi by omega) zo
    iterate 90 (all_goals((conv=>whnf);first|(with_reducible first|refine hZ hil ?_|refine hZ hjl ?_|refine hU hr ?_|refine hU hs ?_)|refine zG ?_|apply zA|intro h|exact zT|skip))
    ·have h:=Lt g1 f1 hinv hr hs zp;rw[e0 zp]at h;refine⟨(i+1,j,out++[mkR (max r.lo s.lo) (min r.hi s.hi)]),⟨by simp only;omega,hj,h⟩,by simp only;omega,?_⟩;simp only[aQ,aR,bL,aD,aB,aG];rw[e2];exact⟨[(0,2)],rfl,⟨rfl,rfl,rfl,rfl,rfl,trivial⟩,⟨rfl,trivial⟩⟩
    ·have h:=Jh g1 f1 hinv hr hs zo;rw[e0 zp]at h;refine⟨(i,j+1,out++[mkR (max r.lo s.lo) (min r.hi s.hi)]),⟨hi,by simp only;omega,h⟩,by simp only;omega,?_⟩;simp only[aQ,aR,bL,aD,aB,aG];rw[e2];exact⟨[(0,2)],rfl,⟨rfl,rfl,rfl,rfl,rfl,trivial⟩,⟨rfl,trivial⟩⟩
    ·have h:=Lt g1 f1 hinv hr hs zp;rw[e1 zp]at h;exact⟨(i+1,j,out),⟨by simp only;omega,hj,h⟩,by simp only;omega,⟨[(0,0)],rfl,⟨rfl,rfl,rfl,rfl,rfl,trivial⟩,⟨rfl,trivial⟩⟩⟩
    ·have h:=Jh g1 f1 hinv hr hs zo;rw[e1 zp]at h;exact⟨(i,j+1,out),⟨hi,by simp only;omega,h⟩,by simp only;omega,⟨[(0,0)],rfl,⟨rfl,rfl,rfl,rfl,rfl,trivial⟩,⟨rfl,trivial⟩⟩⟩
   ·iterate 10 (all_goals((conv=>whnf);first|(with_reducible first|refine hZ hil ?_|refine hZ hjl ?_)|refine zG ?_|apply zA|intro h|exact zT|skip))
    exact fin fun v=>by rw[bV hjl,oS,Bool.and_false]
  ·iterate 10 (all_goals((conv=>whnf);first|(with_reducible refine hZ hil ?_)|refine zG ?_|apply zA|intro h|exact zT|skip))
   exact fin fun v=>by rw[bV hil,oS,eO]
theorem aQd(n:Int){K:KT}(hK:∀s:ByteArray,s.size<=2->K (.v (.string s)) []):AC 298 [.v (.int .i64 n)] [] K:=by
 refine aOa rfl rfl ?_;(repeat' ((conv=>whnf);first|(with_reducible first|refine Ob.intro zd ?_|refine xN fun r=>?_)|(refine iP (by rfl) ?_)|refine zG ?_|apply zA|intro h|exact zT));all_goals conv=>whnf
 exact hK _ (by rw[strOfNums_size];simp)
theorem aKo(n:Int){K:KT}(hK:∀s:ByteArray,s.size<=5->K (.v (.string s)) []):AC 262 [.v (.int .i64 n)] [] K:=by
 have z1:(⟨#[58]⟩:ByteArray).size=1:=rfl;refine aGH rfl rfl ?_;(repeat' ((conv=>whnf);first|(with_reducible first|refine Ob.intro zd ?_|refine xN fun r=>?_|refine aQd _ fun s hs=>?_|refine Ob.intro (by(try simp only[ByteArray.size_append]);omega) ?_)|refine zG ?_|apply zA|intro h|exact zT));all_goals conv=>whnf
 exact hK _ (by simp only[ByteArray.size_append];omega)
theorem aKk(l:List Rg)(hl:l.length<=4000){K:KT}(hK:∀ss:List ByteArray,ss.length=I3 l->ss.length<=300000->K (.lst (ss.map mU)) []):AC 198 [iH l] [] K:=by
 refine gQ (aGG rfl rfl ?_);(repeat' ((conv=>whnf);first|(with_reducible refine c28 l 10079 zo fun s hs=>?_)|(refine iP (by rfl) ?_)|refine zG ?_|apply zA|intro h|exact zT));all_goals conv=>whnf
 all_goals first
  |exact⟨_,gS,hK [] (by rw[I3,aF (fun hh=>by have:=hs.2 hh;simp_all)];rfl) zx⟩
  |exact⟨_,gO,hK [⟨#[110,101,118,101,114]⟩] (by
    have hl0:l=[]:=cG.1 (by simp only[aA]at*;omega);rw[I3,aH (hs.1 (by simp_all)),zO,aH hl0];rfl) zx⟩
  |skip
 have hv:jC l/\∀r,r∈l->r.hi<=10079:=hs.1 (by simp_all);have hne:l≠[]:=fun e=>by subst e;simp_all
 rw[I3,aH hv,zO,aF hne]at hK;refine gM (Nat×List ByteArray) (fun g=>⟨1,[(0,.arr 1 (g.2.map mU))],[(0,iH l),(3,.os 0 1 0 g.2.length),(16,.agg (dayL.map mU)),(17,.v (.int .i64 g.1))]⟩)
  (fun g=>g.1<=7/\g.2.length<=40000*g.1/\g.2.length=3*uT l g.1-1) (fun g=>7-g.1) (0,[]) ⟨aO _,aO _,rfl⟩ ?_ ?_
 ·exact leA
 rintro⟨d,ss⟩ ⟨hd,hss,hsn⟩
 simp only at hd hss hsn⊢;rcases aC d 7 with hd7|hd7
 ·have hint:∀{K:KT},(∀out,jC out->(∀v,has out v=(has l v&&has [mkR (1440*d) (1440*d+1439)] v))->out.length<=l.length+1->K (iH out) [])->AC 261 [iH l,.lst [jR (mkR (1440*d) (1440*d+1439))]] [] K:=fun h=>c19 l [mkR (1440*d) (1440*d+1439)] zo zx h;have m1:(mkR (1440*(d:Int)) (1440*d+1439)).lo=1440*d:=kC zo zo zo zo;have m2:(mkR (1440*(d:Int)) (1440*d+1439)).hi=1440*d+1439:=kO zo zo zo zo;have hint2:∀{K:KT},(∀out,jC out->(∀v,has out v=(has l v&&has [mkR (1440*d) (1440*d+1439)] v))->out.length<=l.length+1->K (iH out) [])->AC 261 [iH l,.lst [.agg [.v (.int .u32 ((d:Int)*1440)),.v (.int .u32 ((d:Int)*1440+1440-1))]]] [] K:=fun h=>by
   have:=hint h;simp only[jR,m1,m2]at this;rw[show(d:Int)*1440=1440*d by omega,show 1440*(d:Int)+1440-1=1440*d+1439 by omega];exact this
  (repeat' ((conv=>whnf);first|refine zG ?_|apply zA|intro h|exact zT));all_goals conv=>whnf
  refine gY ByteArray (fun c=>⟨1,[(0,.arr 1 (ss.map mU))],[(0,iH l),(3,.os 0 1 0 ss.length),(4,.v (.int .i64 d)),(5,.v (.string c)),(16,.agg (dayL.map mU)),(17,.v (.int .i64 d))]⟩) (fun c=>c.size<=3) ?_ ?_
  ·obtain rfl|rfl|rfl|rfl|rfl|rfl|rfl:d=0\/d=1\/d=2\/d=3\/d=4\/d=5\/d=6:=by omega
   all_goals
    (repeat' ((conv=>whnf);first|(with_reducible refine gU _ rfl zd ?_)|refine zG ?_|apply zA|intro h|exact zT));all_goals conv=>whnf
    first
     |(refine⟨⟨#[109,111,110]⟩,by decide,?_⟩
       exact leA)
     |(refine⟨⟨#[116,117,101]⟩,by decide,?_⟩
       exact leA)
     |(refine⟨⟨#[119,101,100]⟩,by decide,?_⟩
       exact leA)
     |(refine⟨⟨#[116,104,117]⟩,by decide,?_⟩
       exact leA)
     |(refine⟨⟨#[102,114,105]⟩,by decide,?_⟩
       exact leA)
     |(refine⟨⟨#[115,97,116]⟩,by decide,?_⟩
       exact leA)
     |(refine⟨⟨#[115,117,110]⟩,by decide,?_⟩
       exact leA)
  intro dn hdn;(repeat' ((conv=>whnf);first|(with_reducible first|refine jB rfl zo zo ?_|refine xO rfl zo zo ?_)|(refine iP (by rfl) ?_)|(with_reducible refine hint2 fun out ho hh hn=>?_)|refine zG ?_|apply zA|intro h|exact zT));all_goals conv=>whnf
  have hday:wI l d=out:=N0 ho fun v=>by
   rw[hh v];rw[Ht hd7]
  have hcs:=K8 l d;rw[hday]at hcs;refine gM (Nat×List ByteArray) (fun g=>⟨3,[(0,.arr 1 (g.2.map mU)),(1,.box [.v (.int .u32 ((d:Int)*1440)),.v (.int .u32 ((d:Int)*1440+1440-1))])],[(0,iH l),(3,.os 0 1 0 g.2.length),(5,.v (.string dn)),(6,.op 1 0),(16,.agg (dayL.map mU)),(17,.v (.int .i64 d)),(33,iH out),(34,.v (.int .i64 (out.map jR).length)),(35,.v (.int .i64 g.1))]⟩)
   (fun g=>g.1<=out.length/\g.2.length<=ss.length+3*g.1/\g.2.length=3*(uT l d+g.1)-1) (fun g=>out.length-g.1) (0,ss) ⟨aO _,by simp only;omega,by simp only;omega⟩ ?_ ?_
  ·exact leA
  rintro⟨i,st⟩ ⟨hi,hst,hstn⟩
  simp only at hi hst hstn⊢;rcases aC i out.length with hil|hil
  ·obtain⟨r,hr⟩:=gex hil;have hrm:=aI hr;have hle:=Qb ho hrm;have hb:∀v,r.lo<=v->v<=r.hi->1440*(d:Int)<=v/\v<=1440*d+1439:=fun v h1 h2=>by
    have h3:has out v=true:=has_iff.2 ⟨r,hrm,h1,h2⟩;rw[hh,Ht hd7]at h3;simp only[aJ,aM]at h3;exact h3.2
   have hb1:=hb r.lo (cC _) hle;have hb2:=hb r.hi hle (cC _);(repeat' ((conv=>whnf);first|(with_reducible first|refine hZ hil ?_|refine hU hr ?_)|refine zG ?_|apply zA|intro h|exact zT));all_goals conv=>whnf
   refine gY (List ByteArray) (fun g=>⟨4,[(0,.arr 1 (g.map mU)),(1,.box [.v (.int .u32 ((d:Int)*1440)),.v (.int .u32 ((d:Int)*1440+1440-1))]),(3,.box [.v (.int .u32 r.lo),.v (.int .u32 r.hi)])],[(0,iH l),(3,.os 0 1 0 g.length),(5,.v (.string dn)),(6,.op 1 0),(8,.op 3 0),(16,.agg (dayL.map mU)),(17,.v (.int .i64 d)),(33,iH out),(34,.v (.int .i64 (out.map jR).length)),(35,.v (.int .i64 i))]⟩) (fun g=>g.length<=st.length+1/\g.length=3*(uT l d+i)) ?_ ?_
   ·(repeat' ((conv=>whnf);first|(refine iP (by rfl) ?_)|refine zG ?_|apply zA|intro h|exact zT));all_goals conv=>whnf
    ·refine⟨st++[⟨#[44]⟩],⟨by simp,by simp only[aD,aB,aG];omega⟩,?_⟩;simp only[aQ,aD,aR,bL,aB,aG];exact leA
    ·refine⟨st,⟨by omega,by omega⟩,?_⟩;exact leA
   rintro su ⟨hsu,hsun⟩
   have z1:(⟨#[45]⟩:ByteArray).size=1:=rfl;(repeat' ((conv=>whnf);first|(with_reducible first|refine xO rfl zo zo ?_|refine jB rfl zo zo ?_|refine aKo _ fun s hs=>?_)|(refine iP (by rfl) ?_)|(with_reducible refine Ob.intro (by(try simp only[ByteArray.size_append]);omega) ?_)|refine zG ?_|apply zA|intro h|exact zT));all_goals conv=>whnf
   rename_i q1 sA hsA;refine⟨(i+1,su++[dn,sA++⟨#[45]⟩++s]),⟨by simp only;omega,by simp only[aD,aB,aG];omega,by simp only[aD,aB,aG];omega⟩,by simp only;omega,?_⟩;simp only[aQ,aD,aR,bL,aB,aG,aN,aL];exact leA
  ·(repeat' ((conv=>whnf);first|refine zG ?_|apply zA|intro h|exact zT));all_goals conv=>whnf
   refine⟨(d+1,st),⟨by simp only;omega,by simp only;omega,by simp only;omega⟩,by simp only;omega,?_⟩;rw[show(((d+1,st):Nat×List ByteArray).1:Int)=(d:Int)+1 from by simp only;omega];exact leA
 ·(repeat' ((conv=>whnf);first|(with_reducible refine iP (aA ..) ?_)|refine zG ?_|apply zA|intro h|exact zT));all_goals conv=>whnf
  exact⟨_,gO,hK ss (by rw[hsn,show d=7 by omega]) zo⟩
theorem aQg(p:Int)(r:Rg){K:KT}(hK:K (.sb (prB p r)) []):AC 259 [.v (.int .i64 p),.agg [.v (.int .u32 r.lo),.v (.int .u32 r.hi)]] [] K:=by
 refine gP (aNV rfl rfl ?_);have hl0:=r.l0;(repeat' ((conv=>whnf);first|(refine aBg ?_)|refine zG ?_|apply zA|intro h|exact zT));all_goals conv=>whnf
 all_goals first
  |refine jU hK ?_
  |refine iL hK ?_
  |refine jP hK ?_
 all_goals
  unfold prB;simp_all
 all_goals first
  |omega
  |(rw[aF zo,aF zo];intros;omega)
theorem aKl(x:It)(v:Bool){K:KT}(hK:K (.sb (itB x (!v))) []):AC 197 [kM x,.sb v] [] K:=by
 refine gP (aGA rfl rfl ?_);have hs:=uN x.name;(repeat' ((conv=>whnf);first|(with_reducible first|refine tM _ ?_|refine Im x.pf ?_|refine aQg x.proto x.ports ?_)|(refine aBf ?_)|refine zG ?_|apply zA|intro h|exact zT));all_goals conv=>whnf
 all_goals first
  |refine jU hK ?_
  |refine iL hK ?_
  |refine jP hK ?_
 all_goals
  unfold itB;simp_all[itN,itP,itS]
theorem aQf(s:ByteArray){K:KT}(hK:K (.sb (oH s)) []):AC 201 [.v (.string s)] [] K:=by
 refine gP (aNS rfl rfl ?_);(repeat' ((conv=>whnf);first|(with_reducible refine tM _ ?_)|refine zG ?_|apply zA|intro h|exact zT));all_goals conv=>whnf
 all_goals first
  |exact jU hK (by unfold oH sEq;simp_all)
  |exact jP hK (by unfold oH sEq;simp_all)
theorem aQi(l:List Rg)(hl:l.length<=4000){K:KT}(hK:∀ss:List ByteArray,K (.tup [.lst (ss.map mU),.sb (Zl l)]) []):AC 123 [iH l] [] K:=by
 have h1:1<=zO l\/l≠[]:=by
  by_cases h:l=[]
  ·left;rw[zO,aH h];exact aK _
  ·exact .inr h
 refine gQ (aNY rfl rfl ?_);(repeat' ((conv=>whnf);first|(with_reducible refine aKk l hl fun ss hss hsl=>?_)|refine zG ?_|apply zA|intro h|exact zT));all_goals conv=>whnf
 ·have hq2:(((ss.map mU).length:Int)+1).tdiv 3=(((ss.length+1)/3:Nat):Int):=by rw[aA,bX zo];omega
  (repeat' ((conv=>whnf);first|(with_reducible first|refine jB hq2 zo zo ?_|refine jB rfl (by(try simp only[aA]);omega) (by(try simp only[aA]);omega) ?_|refine Ob.intro zd ?_)|refine zG ?_|apply zA|intro h|exact zT));all_goals conv=>whnf
  refine⟨_,gO,?_⟩;have e:decide ((((ss.length+1)/3:Nat):Int)<=16)=Zl l:=by
   rw[bK,winB_iff,H1,aM];unfold I3 at hss;simp only[aA]at h;by_cases hv:jC l/\∀r,r∈l->r.hi<=10079
   ·rw[aH hv]at hss;have h3:zO l=1\/zO l=3*uT l 7-1:=by
     unfold zO;split
     ·exact .inl rfl
     ·exact .inr rfl
    exact⟨fun h=>⟨hv,by omega⟩,fun h=>by omega⟩
   ·rw[aF hv]at hss;omega
  rw[e];exact hK _
 ·refine⟨_,gR gO Weak.bool,?_⟩;have e:Zl l=false:=by
   rw[cB,ne_eq,winB_iff,H1]
   rintro⟨hv,_⟩
   rw[I3,aH hv]at hss;simp only[aA]at h;have h0:zO l=0:=by omega
   rcases h1 with h1|h1
   ·omega
   ·have:=aEP hv.1 hv.2 h1;rw[zO,aF h1]at h0;omega
  rw[<-e];exact hK _
theorem aUl(x:Sm){K:KT}(hK:K (.sb (smB x)) []):AC 128 [jI x] [] K:=by
 refine gP (aTt rfl rfl ?_);(repeat' ((conv=>whnf);first|(with_reducible first|refine Lp.times 8 ?_|refine aQf _ ?_)|(refine kP zd ?_)|(refine gV rfl ?_)|refine zG ?_|apply zA|intro h|exact zT));all_goals conv=>whnf
 all_goals first
  |refine jU hK ?_
  |refine iL hK ?_
  |refine jP hK ?_
 all_goals
  unfold smB;simp_all[sEq]
 all_goals omega
structure Bnd (i:Nt):Prop where
 g:i.grps.length<=999
 s:i.svcs.length<=999
 w:i.wins.length<=999
 t:i.sts.length<=999
 p:i.pubs.length<=999
 h:i.hids.length<=999
 gi:∀x,x∈i.grps->x.items.length<=999
 si:∀x,x∈i.svcs->x.items.length<=999
 wi:∀x,x∈i.wins->x.act.length<=4000
 its:Hb i.grps<=70
 sits:Hb i.svcs<=70000
theorem aEl(d:Df)(s:ByteArray){K:KT}(hK:K (.sb (sEq d.name s)) []):AC 258 [iG d,.fp [.v (.string s)]] [] K:=by
 refine aCq rfl rfl ?_;(repeat' ((conv=>whnf);first|refine zG ?_|apply zA|intro h|exact zT));all_goals conv=>whnf
 exact hK
theorem aUk(l:List Df)(f:FuncId)(cs:List AV)(p:Df->Bool)(hF:∀(x:Df) (K:AV->List Vm.Obj->Prop),K (.sb (p x)) []->AC f [iG x,.fp cs] [] K)(hl:l.length<1000000){K:KT}(hK:K (.v (.int .i64 (jJ p l))) []):
  AC 257 [.lst (l.map iG),.fn (.func f) [] [.fp cs]] [] K:=by
 refine aDc rfl rfl ?_;(repeat' ((conv=>whnf);first|refine zG ?_|apply zA|intro h|exact zT));all_goals conv=>whnf
 refine gM Nat (fun k=>⟨0,[],[(0,.lst (l.map iG)),(1,.fn (.func f) [] [.fp cs]),(7,.v (.int .i64 (l.map iG).length)),(8,.v (.int .i64 k))]⟩) (fun k=>k<=l.length/\∀(i:Nat) y,i<k->l[i]? =some y->p y=false) (fun k=>l.length-k) 0 ⟨aO _,fun i y hi=>absurd hi (bC _)⟩ ?_ ?_
 ·exact leA
 intro k ⟨hk,hinv⟩;rcases aC k l.length with hkl|hkl
 ·obtain⟨r,hr⟩:=gex hkl;(repeat' ((conv=>whnf);first|(with_reducible first|refine hZ hkl ?_|refine hU hr ?_|refine hF r _ ?_)|refine zG ?_|apply zA|intro h|exact zT));all_goals conv=>whnf
  ·rw[jQ hr h hinv]at hK;exact hK
  ·refine⟨k+1,⟨by omega,jY hr h hinv⟩,by omega,?_⟩;rw[aN,aL];exact leA
 ·(repeat' ((conv=>whnf);first|refine zG ?_|apply zA|intro h|exact zT));all_goals conv=>whnf
  rw[jS (iC hkl hinv)]at hK;exact hK
theorem aKj(l:List Df)(s:ByteArray)(hl:l.length<1000000){K:KT}(hK:K (.v (.int .i64 (Fh l s))) []):AC 196 [.lst (l.map iG),.v (.string s)] [] K:=by
 have hc:∀{K:KT},K (.v (.int .i64 (Fh l s))) []->AC 257 [.lst (l.map iG),.fn (.func 258) [] [.fp [.v (.string s)]]] [] K:=fun h=>aUk l _ _ (fun d=>sEq d.name s) (fun x K h=>aEl x s h) hl h;refine aGz rfl rfl ?_;(repeat' ((conv=>whnf);first|(with_reducible refine hc ?_)|refine zG ?_|apply zA|intro h|exact zT));all_goals conv=>whnf
 exact hK
theorem aKp(d:Wn)(s:ByteArray){K:KT}(hK:K (.sb (sEq d.name s)) []):AC 199 [jD d,.fp [.v (.string s)]] [] K:=by
 refine aGD rfl rfl ?_;(repeat' ((conv=>whnf);first|refine zG ?_|apply zA|intro h|exact zT));all_goals conv=>whnf
 exact hK
theorem aKh(l:List Wn)(f:FuncId)(cs:List AV)(p:Wn->Bool)(hF:∀(x:Wn) (K:AV->List Vm.Obj->Prop),K (.sb (p x)) []->AC f [jD x,.fp cs] [] K)(hl:l.length<1000000){K:KT}(hK:K (.v (.int .i64 (jJ p l))) []):
  AC 129 [.lst (l.map jD),.fn (.func f) [] [.fp cs]] [] K:=by
 refine aNU rfl rfl ?_;(repeat' ((conv=>whnf);first|refine zG ?_|apply zA|intro h|exact zT));all_goals conv=>whnf
 refine gM Nat (fun k=>⟨0,[],[(0,.lst (l.map jD)),(1,.fn (.func f) [] [.fp cs]),(7,.v (.int .i64 (l.map jD).length)),(8,.v (.int .i64 k))]⟩) (fun k=>k<=l.length/\∀(i:Nat) y,i<k->l[i]? =some y->p y=false) (fun k=>l.length-k) 0 ⟨aO _,fun i y hi=>absurd hi (bC _)⟩ ?_ ?_
 ·exact leA
 intro k ⟨hk,hinv⟩;rcases aC k l.length with hkl|hkl
 ·obtain⟨r,hr⟩:=gex hkl;(repeat' ((conv=>whnf);first|(with_reducible first|refine hZ hkl ?_|refine hU hr ?_|refine hF r _ ?_)|refine zG ?_|apply zA|intro h|exact zT));all_goals conv=>whnf
  ·rw[jQ hr h hinv]at hK;exact hK
  ·refine⟨k+1,⟨by omega,jY hr h hinv⟩,by omega,?_⟩;rw[aN,aL];exact leA
 ·(repeat' ((conv=>whnf);first|refine zG ?_|apply zA|intro h|exact zT));all_goals conv=>whnf
  rw[jS (iC hkl hinv)]at hK;exact hK
theorem aQh(l:List Wn)(s:ByteArray)(hl:l.length<1000000){K:KT}(hK:K (.v (.int .i64 (E6 l s))) []):AC 124 [.lst (l.map jD),.v (.string s)] [] K:=by
 have hc:∀{K:KT},K (.v (.int .i64 (E6 l s))) []->AC 129 [.lst (l.map jD),.fn (.func 199) [] [.fp [.v (.string s)]]] [] K:=fun h=>aKh l _ _ (fun d=>sEq d.name s) (fun x K h=>aKp x s h) hl h;refine aNX rfl rfl ?_;(repeat' ((conv=>whnf);first|(with_reducible refine hc ?_)|refine zG ?_|apply zA|intro h|exact zT));all_goals conv=>whnf
 exact hK
theorem aKi(l:List Df)(v:Bool)(hl:l.length<=999)(hi:∀x,x∈l->x.items.length<=999){K:KT}(hK:K (.sb (zI l (!v))) []):AC 122 [.lst (l.map iG),.sb v] [] K:=by
 refine gP (aGy rfl rfl ?_);(repeat' ((conv=>whnf);first|refine zG ?_|apply zA|intro h|exact zT));all_goals conv=>whnf
 refine gM Nat (fun i=>⟨0,[],[(0,.lst (l.map iG)),(1,.sb v),(9,.lst (l.map iG)),(10,.v (.int .i64 (l.map iG).length)),(11,.v (.int .i64 i))]⟩) (fun i=>i<=l.length/\∀(j:Nat) d,j<i->l[j]? =some d->DfOk l (!v) j d) (fun i=>l.length-i) 0 ⟨aO _,fun i y hi=>absurd hi (bC _)⟩ ?_ ?_
 ·exact leA
 intro i ⟨hil0,hinv⟩;rcases aC i l.length with hil|hil
 ·obtain⟨x,hx⟩:=gex hil;have hxi:=hi x (aI hx);have hno:(DfOk l (!v) i x->False)->zI l (!v)=false:=fun h=>zJ fun hn=>h (hn.all i x hx);(repeat' ((conv=>whnf);first|(with_reducible first|refine hZ hil ?_|refine hU hx ?_)|refine zG ?_|apply zA|intro h|exact zT));all_goals conv=>whnf
  refine gY Unit (fun _=>⟨1,[(0,.box [.v (.string x.name),.lst (x.items.map kM)])],[(0,.lst (l.map iG)),(1,.sb v),(5,.v (.int .i64 i)),(6,.op 0 0),(9,.lst (l.map iG)),(10,.v (.int .i64 (l.map iG).length)),(11,.v (.int .i64 i))]⟩) (fun _=>kW x.name=true/\1<=x.items.length/\x.items.length<=16/\Fh l x.name=i) ?_ ?_
  ·(repeat' ((conv=>whnf);first|(with_reducible first|refine tM _ ?_|refine aKj l _ zo ?_)|refine zG ?_|apply zA|intro h|exact zT));all_goals conv=>whnf
   all_goals first
    |(refine⟨(),⟨by with_reducible assumption,by simp only[aA]at*;omega,by simp only[aA]at*;omega,by with_reducible assumption⟩,?_⟩
      exact leA)
    |(refine iL hK (hno fun hn=>?_)
      have n1:=hn.name;have n2:=hn.first;have n3:=hn.lo;have n4:=hn.hi
      (try simp only[aA]at*)
      first|omega|simp_all)
  rintro⟨⟩ ⟨h1,h2,h3,h4⟩
  (repeat' ((conv=>whnf);first|refine zG ?_|apply zA|intro h|exact zT));all_goals conv=>whnf
  refine gM Nat (fun k=>⟨1,[],[(0,.lst (l.map iG)),(1,.sb v),(9,.lst (l.map iG)),(10,.v (.int .i64 (l.map iG).length)),(11,.v (.int .i64 i)),(41,.lst (x.items.map kM)),(42,.v (.int .i64 (x.items.map kM).length)),(43,.v (.int .i64 k))]⟩) (fun k=>k<=x.items.length/\∀(j:Nat) y,j<k->x.items[j]? =some y->itB y (!v)=true) (fun k=>x.items.length-k) 0 ⟨aO _,fun i y hi=>absurd hi (bC _)⟩ ?_ ?_
  ·exact leA
  intro k ⟨hk0,hkv⟩;rcases aC k x.items.length with hkl|hkl
  ·obtain⟨y,hy⟩:=gex hkl;(repeat' ((conv=>whnf);first|(with_reducible first|refine hZ hkl ?_|refine hU hy ?_|refine aKl y v ?_)|refine zG ?_|apply zA|intro h|exact zT));all_goals conv=>whnf
   ·refine⟨k+1,⟨hkl,iD hy h hkv⟩,by omega,?_⟩;rw[aN,aL];exact leA
   ·refine iL hK (hno fun hn=>?_);rw[hn.all y (aI hy)]at h;cases h
  ·(repeat' ((conv=>whnf);first|refine zG ?_|apply zA|intro h|exact zT));all_goals conv=>whnf
   have hall:=iC hkl hkv;refine⟨i+1,⟨hil,iD hx ⟨h1,h4,h2,h3,fun y hy=>?_⟩ hinv⟩,by omega,?_⟩
   ·obtain⟨j,hj⟩:=bM.1 hy;exact hall j y hj
   ·rw[aN,aL];exact leA
 ·(repeat' ((conv=>whnf);first|refine zG ?_|apply zA|intro h|exact zT));all_goals conv=>whnf
  refine jP hK ?_;have hall:=iC hil hinv;rw[bK,dfsB_iff,aM,aA];exact⟨fun h=>by have:=h.len;omega,fun h=>⟨by omega,hall⟩⟩
theorem Vn(l:List Df)(v:Bool)(hl:l.length<=999)(hi:∀x,x∈l->x.items.length<=999){K:KT}(hK:K (.sb (zI l (!v))) []):AC 122 [.lst (l.map iG),.v (.bool v)] [] K:=
 ACall.args (ys:=[.lst (l.map iG),.sb v]) ⟨Weak.refl,Weak.bool,trivial⟩ (aKi l v hl hi hK)
theorem aKn(n:Int){K:KT}(hK:K (.sb (ptB n)) []):AC 125 [.v (.int .i64 n)] [] K:=by
 refine gP (aGB rfl rfl ?_);(repeat' ((conv=>whnf);first|refine zG ?_|apply zA|intro h|exact zT));all_goals conv=>whnf
 ·exact jP hK (by unfold ptB;simp_all)
 ·exact iL hK (by unfold ptB;rw[decide_eq_false zo];rfl)
theorem aKm(x:Sm){K:KT}(hK:K (.sb (!smB x)) []):AC 127 [jI x] [] K:=by
 refine aGC rfl rfl ?_;(repeat' ((conv=>whnf);first|(with_reducible refine aUl x ?_)|refine zG ?_|apply zA|intro h|exact zT));all_goals conv=>whnf
 exact hK
theorem aQe(l:List Sm)(hl:l.length<1000000){K:KT}(hK:K (.v (.int .i64 (jJ (fun x=> !smB x) l))) []):
  AC 200 [.lst (l.map jI),.fn (.func 127) [] []] [] K:=by
 refine aNT rfl rfl ?_;(repeat' ((conv=>whnf);first|refine zG ?_|apply zA|intro h|exact zT));all_goals conv=>whnf
 refine gM Nat (fun k=>⟨0,[],[(0,.lst (l.map jI)),(1,.fn (.func 127) [] []),(7,.v (.int .i64 (l.map jI).length)),(8,.v (.int .i64 k))]⟩) (fun k=>k<=l.length/\∀(i:Nat) y,i<k->l[i]? =some y->(!smB y)=false) (fun k=>l.length-k) 0 ⟨aO _,fun i y hi=>absurd hi (bC _)⟩ ?_ ?_
 ·exact leA
 intro k ⟨hk,hinv⟩;rcases aC k l.length with hkl|hkl
 ·obtain⟨r,hr⟩:=gex hkl;(repeat' ((conv=>whnf);first|(with_reducible first|refine hZ hkl ?_|refine hU hr ?_|refine aKm r ?_)|refine zG ?_|apply zA|intro h|exact zT));all_goals conv=>whnf
  all_goals first
   |(rw[jQ (p:=fun x=> !smB x) hr (by simp only[h];rfl) hinv]at hK
     exact hK)
   |(refine⟨k+1,⟨by omega,jY (p:=fun x=> !smB x) hr (by simp only[h];rfl) hinv⟩,by omega,?_⟩
     rw[aN,aL];(exact leA))
 ·(repeat' ((conv=>whnf);first|refine zG ?_|apply zA|intro h|exact zT));all_goals conv=>whnf
  rw[jS (p:=fun x=> !smB x) (iC hkl hinv)]at hK;exact hK
theorem uD{α:Type}(p:α->Bool)(l:List α):decide (0<=jJ p l)=l.any p:=by
 rw[bK,aM,dE];unfold jJ;cases hf:l.findIdx? p with
 |none=>
  rw[fR]at hf;constructor
  ·intro h;simp at h
  ·rintro⟨x,hx,hp⟩
   rw[hf x hx]at hp;cases hp
 |some n=>
  rw[dU]at hf;obtain⟨h1,h2,_⟩:=hf;exact⟨fun _=>⟨_,cX h1,h2⟩,fun _=>by simp only;omega⟩
theorem aQc(l:List Sm)(hl:l.length<1000000){K:KT}(hK:K (.sb (l.any fun x=> !smB x)) []):
  AC 126 [.lst (l.map jI),.fn (.func 127) [] []] [] K:=by
 refine aNR rfl rfl ?_;(repeat' ((conv=>whnf);first|(with_reducible refine aQe l hl ?_)|refine zG ?_|apply zA|intro h|exact zT));all_goals conv=>whnf
 rw[<-uD]at hK;exact hK
theorem Nh(i:Nt)(hb:Bnd i){K:KT}(hK:K (.sb (ntB i)) []):AC 58 [iS i] [] K:=by
 have bg:=hb.g;have bs:=hb.s;have bw:=hb.w;have bt:=hb.t;have bp:=hb.p;have bh:=hb.h;refine gP (aNW rfl rfl ?_);have hno:(NtOk i->False)->ntB i=false:=L3;(repeat' ((conv=>whnf);first|refine zG ?_|apply zA|intro h|exact zT));all_goals conv=>whnf
 refine gY Unit (fun _=>⟨1,[(0,mD i)],[(1,.op 0 0)]⟩) (fun _=>DfsOk i.grps true/\DfsOk i.svcs false/\i.wins.length<=32/\i.sts.length<=64/\i.pubs.length<=16/\i.hids.length<=8) ?_ ?_
 ·have hG:∀{K:KT},K (.sb (zI i.grps true)) []->AC 122 [.lst (i.grps.map iG),.v (.bool false)] [] K:=fun h=>Vn i.grps false bg hb.gi h;have hS:∀{K:KT},K (.sb (zI i.svcs false)) []->AC 122 [.lst (i.svcs.map iG),.v (.bool true)] [] K:=fun h=>Vn i.svcs true bs hb.si h;(repeat' ((conv=>whnf);first|(with_reducible first|refine hG ?_|refine hS ?_)|refine zG ?_|apply zA|intro h|exact zT));all_goals conv=>whnf
  all_goals first
   |(refine⟨(),⟨dfsB_iff.1 zw,dfsB_iff.1 zw,by simp only[aA]at*;omega,by simp only[aA]at*;omega,by simp only[aA]at*;omega,by simp only[aA]at*;omega⟩,?_⟩
     exact leA)
   |(refine iL hK (hno fun hn=>?_)
     have n1:=hn.wl;have n2:=hn.tl;have n3:=hn.pl;have n4:=hn.hl;(try simp only[aA]at*)
     first
      |omega
      |(rw[uB hn.g]at h;cases h;done)
      |(rw[uB hn.s]at h;cases h;done))
 rintro⟨⟩ ⟨hg,hs,h1,h2,h3,h4⟩
 (repeat' ((conv=>whnf);first|refine zG ?_|apply zA|intro h|exact zT));all_goals conv=>whnf
 refine gM Nat (fun n=>⟨1,[(0,mD i)],[(1,.op 0 0),(47,.lst (i.wins.map jD)),(48,.v (.int .i64 (i.wins.map jD).length)),(49,.v (.int .i64 n))]⟩) (fun n=>n<=i.wins.length/\∀(j:Nat) y,j<n->i.wins[j]? =some y->WnOk i.wins j y) (fun n=>i.wins.length-n) 0 ⟨aO _,fun i y hi=>absurd hi (bC _)⟩ ?_ ?_
 ·exact leA
 intro n ⟨hn,hwin0⟩;rcases aC n i.wins.length with hnl|hnl
 ·obtain⟨x,hx⟩:=gex hnl;have hxa:=hb.wi x (aI hx);(repeat' ((conv=>whnf);first|(with_reducible first|refine hZ hnl ?_|refine hU hx ?_|refine aQi _ hxa fun ss=>?_|refine tM _ ?_|refine aQh _ _ zo ?_)|refine zG ?_|apply zA|intro h|exact zT));all_goals conv=>whnf
  all_goals first
   |(refine⟨n+1,⟨hnl,iD hx ⟨by with_reducible assumption,by with_reducible assumption,winB_iff.1 zw⟩ hwin0⟩,by omega,?_⟩
     rw[aN,aL];exact leA)
   |(refine iL hK (hno fun hn=>?_)
     have n1:=hn.w n x hx;have n2:=winB_iff.2 n1.act;have n3:=n1.name;have n4:=n1.first
     first
      |exact h n4
      |(rw[n2]at h;cases h;done)
      |(rw[n3]at h;cases h;done))
 have hwin:=iC hnl hwin0;(repeat' ((conv=>whnf);first|refine zG ?_|apply zA|intro h|exact zT));all_goals conv=>whnf
 refine gM Nat (fun n=>⟨1,[(0,mD i)],[(1,.op 0 0),(79,.lst (i.pubs.map kG)),(80,.v (.int .i64 (i.pubs.map kG).length)),(81,.v (.int .i64 n))]⟩) (fun n=>n<=i.pubs.length/\∀(j:Nat) y,j<n->i.pubs[j]? =some y->pbB y=true) (fun n=>i.pubs.length-n) 0 ⟨aO _,fun i y hi=>absurd hi (bC _)⟩ ?_ ?_
 ·exact leA
 intro n ⟨hn,hpub0⟩;rcases aC n i.pubs.length with hnl|hnl
 ·obtain⟨x,hx⟩:=gex hnl;(repeat' ((conv=>whnf);first|(with_reducible first|refine hZ hnl ?_|refine hU hx ?_|refine aKn _ ?_|refine tM _ ?_)|refine zG ?_|apply zA|intro h|exact zT));all_goals conv=>whnf
  all_goals first
   |(refine⟨n+1,⟨hnl,iD hx (by unfold pbB;simp_all) hpub0⟩,by omega,?_⟩
     rw[aN,aL];exact leA)
   |(refine iL hK (hno fun hn=>?_)
     have n1:=hn.p x (aI hx);unfold pbB at n1;simp_all)
 have hpub:=iC hnl hpub0;(repeat' ((conv=>whnf);first|refine zG ?_|apply zA|intro h|exact zT));all_goals conv=>whnf
 refine gM Nat (fun n=>⟨1,[(0,mD i)],[(1,.op 0 0),(115,.lst (i.hids.map kK)),(116,.v (.int .i64 (i.hids.map kK).length)),(117,.v (.int .i64 n))]⟩) (fun n=>n<=i.hids.length/\∀(j:Nat) y,j<n->i.hids[j]? =some y->hnB y=true) (fun n=>i.hids.length-n) 0 ⟨aO _,fun i y hi=>absurd hi (bC _)⟩ ?_ ?_
 ·exact leA
 intro n ⟨hn,hhid0⟩;rcases aC n i.hids.length with hnl|hnl
 ·obtain⟨x,hx⟩:=gex hnl;(repeat' ((conv=>whnf);first|(with_reducible first|refine hZ hnl ?_|refine hU hx ?_|refine tM _ ?_)|refine zG ?_|apply zA|intro h|exact zT));all_goals conv=>whnf
  all_goals first
   |(refine⟨n+1,⟨hnl,iD hx (by unfold hnB;simp_all) hhid0⟩,by omega,?_⟩
     rw[aN,aL];exact leA)
   |(refine iL hK (hno fun hn=>?_)
     have n1:=hn.h x (aI hx);unfold hnB at n1;simp_all;try omega)
 have hhid:=iC hnl hhid0;(repeat' ((conv=>whnf);first|(with_reducible refine aQc i.sts zo ?_)|refine zG ?_|apply zA|intro h|exact zT));all_goals conv=>whnf
 refine jP hK ?_;have mem:∀{α:Type} {l:List α} {P:α->Prop},(∀(j:Nat) y,l[j]? =some y->P y)->∀x,x∈l->P x:=fun h x hx=>by
  obtain⟨j,hj⟩:=bM.1 hx;exact h j x hj
 rw[bK,ntB_iff,eA,fJ];constructor
 ·intro h x hx;rw[h.t x hx];decide
 ·intro h;exact⟨hg,hs,h1,h2,h3,h4,hwin,fun x hx=>by simpa using h x hx,mem hpub,mem hhid⟩
end Go.Proofs.YtnomkooikbhgmaaGreatDoor
