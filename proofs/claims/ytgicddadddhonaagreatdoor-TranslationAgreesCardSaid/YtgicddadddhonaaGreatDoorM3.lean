/- Lemmas. -/
import Derived.Laws.BytesArg
import Derived.Test.YtgicddadddhonaaGreatDoorM2
set_option linter.unusedVariables false
set_option linter.unusedSimpArgs false
set_option maxRecDepth 100000
set_option maxHeartbeats 4000000
noncomputable section
namespace Go.Vm
structure St where
 n:Nat
 h:Hp
 s:List (Nat×AV)
def St.ev(σ:St):Operand->AV
 |.tmp t=>(match get σ.s t with
  |some x=>x
  |none=>.junk)
 |.const v=>ofValue v
 |.global g=>(match get aBP g with
  |some cs=>.fp (cs.map .v)
  |none=>.junk)
 |.func f=>.fn (.func f) [] []
def set(h:Hp)(id:Nat)(o:Obj):Hp:=(id,o)::del h id
def oV:Hp->(Hp->Prop)->Prop
 |[],K=>K []
 |(k,.box cs)::r,K=>nB k fun k=>oV r fun r'=>K ((k,.box cs)::r')
 |(k,.arr sz xs)::r,K=>nB k fun k=>nB sz fun sz=>oV r fun r'=>K ((k,.arr sz xs)::r')
 |(k,.spc s)::r,K=>nB k fun k=>oV r fun r'=>K ((k,.spc s)::r')
theorem mZ:∀(h:Hp) (K:Hp->Prop),oV h K=K h
 |[],K=>rfl
 |(k,.box cs)::r,K=>by simp only[oV,mK,mZ r]
 |(k,.arr sz xs)::r,K=>by simp only[oV,mK,mZ r]
 |(k,.spc s)::r,K=>by simp only[oV,mK,mZ r]
def aFR:List (Nat×AV)->(List (Nat×AV)->Prop)->Prop
 |[],K=>K []
 |(k,x)::r,K=>nB k fun k=>aFR r fun r'=>K ((k,x)::r')
theorem Wk:∀(s:List (Nat×AV)) (K:List (Nat×AV)->Prop),aFR s K=K s
 |[],K=>rfl
 |(k,x)::r,K=>by simp only[aFR,mK,Wk r]
def aJR(h:Hp)(sz:Nat)(Y:AV)(K:List AV->Prop):Prop:=
 match Y with
 |.nils=>K []
 |.lst ys=>Ob (∀y,y∈ys->y.cells.length=sz) (K ys)
 |.os id sz' off len=>(match Nat.beq sz' sz with
  |false=>False
  |true=>match get h id with
   |some (.arr sz'' xs)=>(match Nat.beq sz'' sz with
    |true=>Sl xs off len K
    |false=>False)
   |_=>False)
 |_=>False
def Xc(agg:Option Bool)(cs:List AV):Option AV:=
 match agg with
 |some true=>some (.agg cs)
 |some false=>(match cs with
  |[c]=>some c
  |_=>none)
 |none=>none
def oE(P:Program)(e:TypeId):Option AV:=
 match qK P e,tsz P e with
 |some zc,some n=>(match Nat.beq zc.length n&&zc.all AV.pure1 with
  |true=>Xc (K7 P e) zc
  |false=>none)
 |_,_=>none
def aFb(P:Program)(n:Nat)(h:Hp)(t:TypeId)(X:AV)(src:Nat->TypeId->(List AV->Prop)->Prop)(K:AV->Nat->Hp->Prop):Prop:=
 match P.underlying t with
 |some (.slice e)=>(match P.info? e,oE P e with
  |some i,some _=>(match i.bytes with
   |0=>False
   |b+1=>(match X with
    |.nils=>src i.size e fun ys=>Ob ((ys.length+96)*(b+1)<=140737488355328/\∀x,x∈ys->x.cells.all AV.one=true) (K (.os n i.size 0 ys.length) (n+1) ((n,.arr i.size ys)::h))
    |.os id sz off len=>(match Nat.beq sz i.size with
     |false=>False
     |true=>match get h id with
      |some (.arr sz' xs)=>(match Nat.beq sz' i.size with
       |false=>False
       |true=>Sl xs off len fun zs=>src i.size e fun ys=>Ob ((len+ys.length+96)*(b+1)<=140737488355328/\∀x,x∈ys->x.cells.all AV.one=true) (oV (del h id) fun h'=>K (.os n i.size 0 (len+ys.length)) (n+1) ((n,.arr i.size (zs++ys))::h')))
      |_=>False)
    |_=>False))
  |_,_=>False)
 |_=>False
def S8(h:Hp)(Y:AV):Option (List AV):=
 match Y with
 |.os id _ off len=>(match get h id with
  |some (.box cs)=>(match Nat.beq off 0&&Nat.beq len 1 with
   |true=>some cs
   |false=>none)
  |_=>none)
 |_=>none
def aAl(P:Program)(n:Nat)(h:Hp)(t:TypeId)(X:AV)(ycs:List AV)(K:AV->Nat->Hp->Prop):Prop:=
 match P.underlying t with
 |some (.slice e)=>(match P.info? e,oE P e with
  |some i,some _=>(match i.bytes with
   |0=>False
   |b+1=>(match Nat.beq ycs.length i.size&&(ycs.all AV.one&&Nat.ble (b+1) 1000000)with
    |false=>False
    |true=>(match X with
     |.nils=>K (.os n i.size 0 1) (n+1) ((n,.box ycs)::h)
     |.os id sz off len=>(match get h id with
      |some (.box cs)=>(match Nat.beq sz i.size&&(Nat.beq off 0&&(Nat.beq cs.length (len*sz)&&(Nat.blt 0 len&&Nat.ble len 1000)))with
       |true=>rD (cs++ycs) fun ds=>nB (len+1) fun l1=>oV (del h id) fun h'=>K (.os n i.size 0 l1) (n+1) ((n,.box ds)::h')
       |false=>False)
      |_=>False)
     |_=>False)))
  |_,_=>False)
 |_=>False
def aWi(P:Program)(m:Nat)(sz:Nat)(e:TypeId)(K:List AV->Prop):Prop:=
 match oE P e with
 |some z=>K (List.replicate m z)
 |none=>False
def rY(sz:Nat):Nat->List (Nat×AV)->Bool
 |_,[]=>true
 |k,(i,x)::r=>Nat.beq i k&&(Nat.beq x.cells.length sz&&(x.pure&&rY sz (k+1) r))
def u8L:List AV->Option (List Int)
 |[]=>some []
 |.v (.int .u8 k)::l=>(u8L l).map (k:: ·)
 |_=>none
structure Mu (f g:Value->Option AV) (K:(Value->Option AV)->Prop):Prop where
 out:∃f',f'=g/\K f'
theorem Mu.intro{f g f':Value->Option AV}{K:(Value->Option AV)->Prop}(h:f'=g)(hk:K f'):Mu f g K:=⟨⟨f',h,hk⟩⟩
abbrev iG:=@Mu.intro
theorem Mu.elim{f g:Value->Option AV}{K:(Value->Option AV)->Prop}(h:Mu f g K):K g:=by
 obtain⟨_,rfl,hk⟩:=h.out;exact hk
structure Mg (o:Option AV) (T:AV->Prop) (F:Prop):Prop where
 out:(∀x,o=some x->T x)/\(o=none->F)
theorem Mg.intro{o:Option AV}{T:AV->Prop}{F:Prop}(h1:∀x,o=some x->T x)(h2:o=none->F):Mg o T F:=⟨⟨h1,h2⟩⟩
theorem H1{o:Option AV}{x:AV}{T:AV->Prop}{F:Prop}(h:o=some x)(hk:T x):Mg o T F:=by
 subst h;exact Mg.intro (fun y hy=>by cases hy;exact hk) (fun hn=>by cases hn)
theorem xU{o:Option AV}{T:AV->Prop}{F:Prop}(h:o=none)(hk:F):Mg o T F:=by
 subst h;exact Mg.intro (fun y hy=>by cases hy) (fun _=>hk)
theorem Mg.elim{o:Option AV}{T:AV->Prop}{F:Prop}(h:Mg o T F):(∀x,o=some x->T x)/\(o=none->F):=h.out
structure Rg (f:Value->Option AV) (K:Array MapEntry×Nat->List ByteArray->Prop):Prop where
 out:∀τ (L:List ByteArray),L.Nodup->(∀k,k∈L↔∃x,f (.string k)=some x)->K τ L
structure Nx (p:Prop) (f:Value->Option AV) (L:List ByteArray) (A:ByteArray->AV->List ByteArray->Prop) (B:Prop):Prop where
 same:p
 over:L=[]->B
 more:∀l1 k l2 x,L=l1++k::l2->f (.string k)=some x->A k x (l1++l2)
structure En (p:Prop) (o:Option AV) (K:AV->Prop):Prop where
 same:p
 val:∃x,o=some x/\K x
def mapOf:Option Obj->Option (Value->Option AV)
 |some (.spc (.m f))=>some f
 |some (.spc (.mt f _))=>some f
 |_=>none
def Y0:AV->Option ByteArray
 |.v (.string s)=>some s
 |_=>none
open Classical in
def Gd(f:Value->Option AV)(k:Value)(x:AV):Value->Option AV:=fun j=>if j=k then some x else f j
open Classical in
def Iz(f:Value->Option AV)(k:Value):Value->Option AV:=fun j=>if j=k then none else f j
def Jz(P:Program)(t:TypeId):Option TypeId:=
 match P.underlying t with
 |some (.map k e)=>(match P.underlying k with
  |some .string=>some e
  |_=>none)
 |_=>none
def X6(P:Program)(e:TypeId):Option AV:=
 match P.info? e with
 |some i=>(match i.zero with
  |some z=>some (ofValue z)
  |none=>none)
 |none=>none
def eop(P:Program)(n:Nat)(h:Hp)(ev:Operand->AV)(o:Op)(K:AV->Nat->Hp->Prop):Prop:=
 match o with
 |.alloc t=>(match qK P t with
  |some z=>rD z fun z=>K (.op n 0) (n+1) ((n,.box z)::h)
  |none=>False)
 |.box t x=>(match(nbA (ev x)).solid with
  |true=>rD (nbA (ev x)).cells fun z=>K (.op n 0) (n+1) ((n,.box z)::h)
  |false=>False)
 |.buildSlice t len parts=>(match P.underlying t with
  |some (.slice e)=>(match tsz P e,oE P e with
   |some sz,some _=>(match Nat.beq parts.size len&&(Nat.ble (len*sz) 16777216&&rY sz 0 (parts.toList.map fun p=>(p.1,nbA (ev p.2))))with
    |true=>Dt (parts.toList.map fun p=>nbA (ev p.2)) fun xs=>(match aWE t&&Nat.blt 0 len with
     |true=>K (.lst xs) (n+1) h
     |false=>K (.os n sz 0 len) (n+1) ((n,.arr sz xs)::h))
    |false=>(match parts.toList with
     |[p]=>(match Nat.beq p.1 0&&(Nat.beq len 1&&(Nat.beq (nbA (ev p.2)).cells.length sz&&(Nat.ble sz 1000000&&(nbA (ev p.2)).solid)))with
      |true=>rD (nbA (ev p.2)).cells fun cs=>K (.os n sz 0 1) (n+1) ((n,.box cs)::h)
      |false=>False)
     |_=>False))
   |_,_=>False)
  |_=>False)
 |.store t a x=>(match tsz P t with
  |none=>False
  |some m=>match(nbA (ev x)).solid&&Nat.beq (nbA (ev x)).cells.length m with
   |false=>False
   |true=>(match ev a with
    |.op id off=>(match get h id with
     |some (.box cs)=>(match Nat.ble (off+m) cs.length&&(nbA (ev x)).cells.all AV.one with
      |true=>rD (setAt cs off (nbA (ev x)).cells) fun ds=>oV (set h id (.box ds)) fun h'=>K .junk n h'
      |false=>False)
     |_=>False)
    |.ep id sz i off=>(match get h id with
     |some (.arr sz' xs)=>(match Nat.beq sz sz'&&(nbA (ev x)).cells.all AV.pure1 with
      |true=>Ix xs i fun e=>(match Nat.ble (off+m) e.cells.length,e with
       |true,.agg cs=>rD (setAt cs off (nbA (ev x)).cells) fun ds=>oV (set h id (.arr sz (xs.set i (.agg ds)))) fun h'=>K .junk n h'
       |true,_=>(match(nbA (ev x)).cells with
        |[c]=>frc c fun c=>oV (set h id (.arr sz (xs.set i c))) fun h'=>K .junk n h'
        |_=>False)
       |false,_=>False)
      |false=>False)
     |some (.box cs)=>(match Nat.ble (i*sz+off+m) cs.length&&(nbA (ev x)).cells.all AV.one with
      |true=>rD (setAt cs (i*sz+off) (nbA (ev x)).cells) fun ds=>oV (set h id (.box ds)) fun h'=>K .junk n h'
      |false=>False)
     |_=>False)
    |_=>False))
 |.makeSlice t l c=>(match P.underlying t with
  |some (.slice e)=>(match P.info? e,oE P e with
   |some i,some z=>(match ev l,ev c with
    |.v (.int _ lv),.v (.int _ cv)=>In lv 140737488355329 fun a=>In cv 140737488355329 fun b=>Ob (a<=b/\i.bytes*b<=140737488355328) (K (.os n i.size 0 a) (n+1) ((n,.arr i.size (List.replicate b z))::h))
    |_,_=>False)
   |_,_=>False)
  |_=>False)
 |.slice t x none (some hi) (some mx)=>(match P.underlying t with
  |some (.slice e)=>(match tsz P e with
   |some sz=>(match ev hi,ev mx with
    |.v (.int _ a),.v (.int _ b)=>(match ev x with
     |.nils=>Ob (a=0/\b=0) (K (.os n sz 0 0) (n+1) ((n,.arr sz [])::h))
     |.lst _=>Ob (a=0/\b=0) (K (.os n sz 0 0) (n+1) ((n,.arr sz [])::h))
     |.os _ _ _ _=>Ob (a=0/\b=0) (K (.os n sz 0 0) (n+1) ((n,.arr sz [])::h))
     |_=>False)
    |_,_=>False)
   |none=>False)
  |_=>False)
 |.call c=>(match c.callee with
  |.builtin .append=>(match c.argTypes.toList,c.args.toList with
   |[t,t'],[x,y]=>(match P.underlying t' with
    |some (.slice _)=>(match S8 h (ev y)with
     |some ycs=>aAl P n h t (ev x) ycs K
     |none=>aFb P n h t (ev x) (fun sz _ K=>aJR h sz (ev y) K) K)
    |some (.int _)=>(match ev y with
     |.v (.int _ m)=>In m 140737488355328 fun m=>aFb P n h t (ev x) (aWi P m) K
     |_=>False)
    |_=>False)
   |_,_=>False)
  |.builtin .copy=>(match c.argTypes.toList,c.args.toList with
   |[t,_],[x,y]=>(match P.underlying t with
    |some (.slice e)=>(match tsz P e with
     |none=>False
     |some sz=>match ev x with
      |.os id sz' off len=>(match Nat.beq sz' sz with
       |false=>False
       |true=>match get h id with
        |some (.arr sz'' xs)=>(match Nat.beq sz'' sz with
         |false=>False
         |true=>aJR h sz (ev y) fun ys=>Ob (off+len<=xs.length/\∀x,x∈ys->x.cells.all AV.one=true) (oV (set h id (.arr sz (xs.take off++(ys.take len++xs.drop (off+min ys.length len))))) fun h'=>K (.v (.int .i64 (min ys.length len:Nat))) n h'))
        |_=>False)
      |_=>False)
    |_=>False)
   |_,_=>False)
  |.builtin .clear=>(match c.argTypes.toList,c.args.toList with
   |[t],[x]=>(match P.underlying t with
    |some (.slice e)=>(match oE P e with
     |some z=>(match ev x with
      |.os id sz off len=>(match get h id with
       |some (.arr sz' xs)=>(match Nat.beq sz sz'&&(Nat.beq z.cells.length sz&&z.cells.all AV.one)with
        |true=>Ob (off+len<=xs.length) (oV (set h id (.arr sz (xs.take off++(List.replicate len z++xs.drop (off+len))))) fun h'=>K .junk n h')
        |false=>False)
       |_=>False)
      |_=>False)
     |none=>False)
    |_=>False)
   |_,_=>False)
  |.builtin .delete=>(match c.argTypes.toList,c.args.toList with
   |[t,_],[x,k]=>(match Jz P t,ev x,Y0 (ev k)with
    |some _,.mp id,some s=>(match mapOf (get h id)with
     |some f=>Mu f (Iz f (.string s)) fun f'=>oV (set h id (.spc (.m f'))) fun h'=>K (.tup []) n h'
     |_=>False)
    |_,_,_=>False)
   |_,_=>False)
  |.builtin .cap=>(match c.argTypes.toList,c.args.toList with
   |[t],[x]=>(match P.underlying t with
    |some (.slice _)=>(match ev x with
     |.nils=>K (.v (.int .i64 0)) n h
     |.os _ _ _ len=>∀c:Nat,len<=c->K (.v (.int .i64 c)) n h
     |.lst xs=>∀c:Nat,xs.length<=c->K (.v (.int .i64 c)) n h
     |_=>False)
    |_=>False)
   |_,_=>False)
  |_=>False)
 |.makeMap t none=>(match Jz P t with
  |some _=>K (.mp n) (n+1) ((n,.spc (.m fun _=>none))::h)
  |none=>False)
 |.lookup t x k ok=>(match Jz P t with
  |some e=>(match X6 P e,ev x,Y0 (ev k)with
   |some z,.mp id,some s=>(match mapOf (get h id)with
    |some f=>Mg (f (.string s)) (fun x=>match ok with
      |true=>K (.tup [x,.v (.bool true)]) n h
      |false=>K x n h) (match ok with
      |true=>K (.tup [z,.v (.bool false)]) n h
      |false=>K z n h)
    |_=>False)
   |_,_,_=>False)
  |none=>False)
 |.mapUpdate t x k y=>(match Jz P t with
  |some e=>(match tsz P e,ev x,Y0 (ev k)with
   |some m,.mp id,some s=>(match mapOf (get h id)with
    |some f=>(match(nbA (ev y)).pure&&Nat.beq (nbA (ev y)).cells.length m with
     |true=>Mu f (Gd f (.string s) (nbA (ev y))) fun f'=>oV (set h id (.spc (.m f'))) fun h'=>K .junk n h'
     |false=>False)
    |_=>False)
   |_,_,_=>False)
  |none=>False)
 |.range t x=>(match P.underlying t,ev x with
  |some (.map _ _),.mp id=>(match mapOf (get h id)with
   |some f=>Rg f fun τ L=>oV (set h id (.spc (.mt f τ))) fun h'=>K (.op n 0) (n+1) ((n,.spc (.it (some id) τ L none))::h')
   |none=>False)
  |_,_=>False)
 |.next it false=>(match ev it with
  |.op id 0=>(match get h id with
   |some (.spc (.it (some mid) τ L last))=>(match get h mid with
    |some (.spc (.mt f τ'))=>Nx (τ'=τ) f L (fun k x L'=>oV (set h id (.spc (.it (some mid) τ L' (some k)))) fun h'=>K (.tup [.v (.bool true),.v (.string k),x]) n h') (K (.tup [.v (.bool false)]) n h)
    |_=>False)
   |_=>False)
  |_=>False)
 |.entry it=>(match ev it with
  |.op id 0=>(match get h id with
   |some (.spc (.it (some mid) τ L (some k)))=>(match get h mid with
    |some (.spc (.mt f τ'))=>En (τ'=τ) (f (.string k)) fun x=>K (.tup [.v (.string k),x]) n h
    |_=>False)
   |_=>False)
  |_=>False)
 |.convert src dst x=>(match P.underlying src,P.underlying dst with
  |some (.slice e),some .string=>(match P.underlying e with
   |some (.int .u8)=>(match ev x with
    |.os id sz off len=>(match get h id with
     |some (.arr sz' xs)=>(match Nat.beq sz 1&&Nat.beq sz' 1 with
      |true=>Sl xs off len fun ys=>(match u8L ys with
       |some ns=>K (.v (.string (strOfNums ns))) n h
       |none=>False)
      |false=>False)
     |_=>False)
    |_=>False)
   |_=>False)
  |_,_=>False)
 |_=>False
section
variable {P:Program} {E:Nat->Prop} {w:World} {ι:Inj} {n:Nat} {h:Hp}
def EGives(P:Program)(E:Nat->Prop)(w:World)(ι:Inj)(n:Nat)(h:Hp)(s:Sem Next)(K:AV->Nat->Hp->Prop):Prop:=
 ∃x v w' ι' E' n' h',(s.run P w=.ok (.value v) w'\/(s.run P w=.ok .skip w'/\v=undef))/\K x n' h'/\Rel E' w' ι' x v/\Rep ι' E' w' n' h'/\Ext ι h E w ι' h' E' w'
/-! ### elements and their cells -/
theorem lH{xs:List AV}{sz:Nat}(hz:∀x,x∈xs->x.cells.length=sz):(xs.flatMap AV.cells).length=xs.length*sz:=by
 induction xs with
 |nil=>simp
 |cons x xs ih=>
  simp only[cS,aC,aB];rw[ih (fun y hy=>hz y (by simp[hy])),hz x zx,cE];omega
theorem Dq{sz:Nat}:∀{xs:List AV} (hz:∀x,x∈xs->x.cells.length=sz) {i j:Nat} {x y:AV},xs[i]? =some x->x.cells[j]? =some y->(xs.flatMap AV.cells)[i*sz+j]? =some y
 |[],_,i,j,x,y,hx,_=>by simp at hx
 |a::xs,hz,0,j,x,y,hx,hy=>by
  simp at hx;subst hx;simp only[cS,fF,bM];rw[bJ]
  ·exact hy
  ·rcases aD j a.cells.length with h|h
   ·exact h
   ·simp[h]at hy
 |a::xs,hz,i+1,j,x,y,hx,hy=>by
  simp only[cS];have hl:=hz a zx;rw[bF (by rw[cE];omega),hl,show(i+1)*sz+j-sz=i*sz+j by rw[cE];omega];exact Dq (fun z hm=>hz z (by simp[hm])) (by simpa using hx) hy
theorem flat_get{sz:Nat}:∀{xs:List AV} (hz:∀x,x∈xs->x.cells.length=sz) {k:Nat} {y:AV},(xs.flatMap AV.cells)[k]? =some y->∃i x j,xs[i]? =some x/\x.cells[j]? =some y/\j<sz/\k=i*sz+j
 |[],_,k,y,h=>by simp at h
 |a::xs,hz,k,y,h=>by
  simp only[cS]at h;have hl:=hz a zx;rcases aD k sz with hk|hk
  ·rw[bJ zo]at h;exact⟨0,a,k,rfl,h,hk,by omega⟩
  ·rw[bF zo,hl]at h;obtain⟨i,x,j,h1,h2,h3,h4⟩:=flat_get (fun z hm=>hz z (by simp[hm])) h;exact⟨i+1,x,j,by simpa using h1,h2,h3,by rw[cE];omega⟩
theorem G5{b o:Nat}{cs:List AV}(hc:At E w ι b o cs):∃c,(∀w':World,w'.heap=w.heap->(loadCells ⟨b,o,none⟩ cs.length).run P w'=.ok c w')/\RL E w ι cs c:=by
 let g:=fun j=>(w.cell? ⟨b,o+j,none⟩).getD default
 have hg:∀j y,cs[j]? =some y->w.cell? ⟨b,o+j,none⟩=some (g j)/\Rel E w ι y (g j):=by
  intro j y hj;obtain⟨u,hu,hr⟩:=hc j y hj;exact⟨by simp[g,hu],by simp[g,hu];exact hr⟩
 have hl:=fun(w':World) (hw:w'.heap=w.heap)=>run_loadCells_list (P:=P) w' ⟨b,o,none⟩ ((List.range cs.length).map g) (fun j v hv=>by
  rw[Addr.add_none,cell_of_heap (a:=⟨b,_,none⟩) (show w'.heap[b]? =w.heap[b]? by rw[hw])];rcases aD j cs.length with hj|hj
  ·simp[fC hj]at hv;rw[<-hv];exact(hg j cs[j] (aE hj)).1
  ·simp[hj]at hv)
 simp only[aA,fL]at hl;refine⟨_,hl,by simp,fun i x y hx hy=>?_⟩;have hi:i<cs.length:=by
  rcases aD i cs.length with h|h
  ·exact h
  ·simp[h]at hx
 simp[fC hi]at hy;rw[<-hy];exact(hg i x hx).2
theorem Ea{E':Nat->Prop}{w':World}{ι':Inj}{id b base sz:Nat}{xs:List AV}(hι:ι' id=some (some (b,base)))(hE:E' b)(hb:b<w'.heap.size)(hz:∀x,x∈xs->x.cells.length=sz)
  (hc:∀(k:Nat) y,(xs.flatMap AV.cells)[k]? =some y->∃u,w'.cell? ⟨b,base+k,none⟩=some u/\w'.frozen? ⟨b,base+k,none⟩=false/\Rel E' w' jR y u):ORel E' w' ι' id (.arr sz xs):=
 .inr ⟨b,base,hι,hE,hb,fun i x hx=>hz x (aG hx),fun i x j c hx hj=>by
  have:=hc _ _ (Dq hz hx hj)
  rwa[<-cD]at this⟩
theorem G9(r:Rep ι E w n h){id sz:Nat}{xs:List AV}(hg:get h id=some (.arr sz xs)):∀x,x∈xs->x.cells.length=sz:=by
 intro x hx;obtain⟨i,hi⟩:=bH.1 hx;rcases r.obj id _ hg with⟨_,h2⟩|⟨b,base,_,_,_,h4,_⟩
 ·subst h2;simp at hi
 ·exact h4 i x hi
theorem aKT(r:Rep ι E w n h){id sz off len:Nat}{xs:List AV}{a:Option Addr}{l c:Nat}(hg:get h id=some (.arr sz xs))(hX:Rel E w ι (.os id sz off len) (.slice a l c))(hl:off+len<=xs.length):
  l=len/\(len=0\/∃b o,a=some ⟨b,o,none⟩/\At E w jR b o (((xs.drop off).take len).flatMap AV.cells)):=by
 cases hX with
 |osz=>exact⟨rfl,.inl rfl⟩
 |os _ _ _ _ b base cap hι hc hcell=>
  refine⟨rfl,?_⟩;by_cases h0:len=0
  ·exact .inl h0
  ·refine .inr ⟨b,base+off*sz,rfl,?_⟩;have hz:=G9 r hg;rcases r.obj id _ hg with⟨h1,_⟩|⟨b',base',h1,h2,h3,h4,h5⟩
   ·rw[hι]at h1;cases h1
   ·rw[hι]at h1;cases h1;intro k y hk;obtain⟨i,x,j,e1,e2,e3,rfl⟩:=flat_get (fun x hx=>hz x (dZ (cP hx))) hk;have e1':xs[off+i]? =some x:=by
     rw[cZ]at e1;split at e1
     ·rwa[cJ]at e1
     ·cases e1
    obtain⟨u,hu,_,hr⟩:=h5 _ _ _ _ e1' e2;refine⟨u,?_,hr⟩;rw[<-hu];congr 2;rw[cE];omega
def aEZ(P:Program)(E:Nat->Prop)(w:World)(κ:Inj)(sz:Nat)(y:Value)(ys:List AV):Prop:=
 (Builtin.lenOf y).run P w=.ok ys.length w/\(∀x,x∈ys->x.cells.length=sz)/\
 (∃c,(∀w':World,w'.heap=w.heap->(Builtin.firstCells sz ys.length y).run P w'=.ok c w')/\RL E w κ (ys.flatMap AV.cells) c)/\
 ∀m,m<=ys.length->∃c,(∀w':World,w'.heap=w.heap->(Builtin.firstCells sz m y).run P w'=.ok c w')/\RL E w κ ((ys.take m).flatMap AV.cells) c
abbrev Src(P:Program)(E:Nat->Prop)(w:World)(sz:Nat)(y:Value)(ys:List AV):Prop:=aEZ P E w jR sz y ys
theorem src_of{κ:Inj}{sz:Nat}{y:Value}{ys:List AV}(h1:(Builtin.lenOf y).run P w=.ok ys.length w)(h2:∀x,x∈ys->x.cells.length=sz)
  (h3:∀m,m<=ys.length->∃c,(∀w':World,w'.heap=w.heap->(Builtin.firstCells sz m y).run P w'=.ok c w')/\RL E w κ ((ys.take m).flatMap AV.cells) c):aEZ P E w κ sz y ys:=
 ⟨h1,h2,by simpa using h3 ys.length (aO _),h3⟩
theorem oZ:RL E w ι [] #[]:=⟨rfl,fun i x y hx _=>by simp at hx⟩
theorem I5{κ:Inj}{sz b o l c:Nat}{ys:List AV}(hz:∀x,x∈ys->x.cells.length=sz)(hat:At E w κ b o (ys.flatMap AV.cells))(m:Nat)(hm:m<=ys.length):
  ∃cc,(∀w':World,w'.heap=w.heap->(Builtin.firstCells sz m (.slice (some ⟨b,o,none⟩) l c)).run P w'=.ok cc w')/\RL E w κ ((ys.take m).flatMap AV.cells) cc:=by
 have hat':At E w κ b o ((ys.take m).flatMap AV.cells):=fun j y hy=>hat j y (by
  have:ys.flatMap AV.cells=(ys.take m).flatMap AV.cells++(ys.drop m).flatMap AV.cells:=by rw[<-gJ,cU]
  rw[this,bJ]
  ·exact hy
  ·rcases aD j ((ys.take m).flatMap AV.cells).length with h|h
   ·exact h
   ·rw[bS h]at hy;cases hy)
 obtain⟨cc,h1,h2⟩:=G5 (P:=P) hat';rw[lH (sz:=sz) (fun x hx=>hz x (cP hx)),aV,gM hm]at h1;exact⟨cc,fun w' hw=>by simpa[Builtin.firstCells]using h1 w' hw,h2⟩
theorem Er{κ:Inj}(sz:Nat)(a:Option Addr)(c:Nat):aEZ P E w κ sz (.slice a 0 c) []:=
 src_of (by simp[Builtin.lenOf]) zx (fun m hm=>by
  have:m=0:=by simpa using hm
  subst this;cases a with
  |none=>exact⟨#[],fun w' _=>by simp[Builtin.firstCells],oZ⟩
  |some a=>
   refine⟨#[],fun w' _=>?_,oZ⟩;have:=run_loadCells_list (P:=P) w' a [] zx;simpa[Builtin.firstCells]using this)
theorem aEN(r:Rep ι E w n h){id sz off len:Nat}{xs:List AV}{y:Value}(hg:get h id=some (.arr sz xs))(hY:Rel E w ι (.os id sz off len) y)(hl:off+len<=xs.length):Src P E w sz y ((xs.drop off).take len):=by
 have hz:∀x,x∈(xs.drop off).take len->x.cells.length=sz:=fun x hx=>G9 r hg x (dZ (cP hx));have hY':=hY;cases hY with
 |osz id _ _ a=>rw[cA];exact Er _ _ _
 |os _ _ _ _ b base cap hι hc hcell=>
  rcases(aKT r hg hY' hl).2 with h0|⟨b',o',e,hat⟩
  ·subst h0;rw[cA];exact Er _ _ _
  ·cases e;exact src_of (by simp[Builtin.lenOf];omega) hz (fun m hm=>I5 hz hat m hm)
theorem Kl(r:Rep ι E w n h){sz:Nat}{Y:AV}{y:Value}{K:List AV->Prop}(hY:Rel E w ι Y y)(hq:aJR h sz Y K):∃ys,Src P E w sz y ys/\K ys:=by
 cases Y<;>simp only[aJR]at hq
 case nils=>cases hY;exact⟨[],Er _ _ _,hq⟩
 case lst ys=>
  obtain⟨h1,h2⟩:=hq.elim;refine⟨ys,?_,h2⟩;cases hY with
  |lnil=>exact Er _ _ _
  |lst _ b off nn cap sz' hE hb hn hcap hz g hg hr=>
   subst hn;by_cases h0:ys=[]
   ·subst h0;exact Er _ _ _
   ·have hsz:sz'=sz:=by
     cases ys with
     |nil=>exact absurd rfl h0
     |cons a l=>rw[<-hz 0 a rfl];exact h1 a zx
    subst hsz;have hat:At E w jR b off (ys.flatMap AV.cells):=fun k y hk=>by
     obtain⟨i,x,j,e1,e2,e3,rfl⟩:=flat_get h1 hk;exact⟨g i j,by rw[<-cD];exact hg i x j y e1 e2,hr i x j y e1 e2⟩
    exact src_of (by simp[Builtin.lenOf]) h1 (fun m hm=>I5 h1 hat m hm)
 case os id sz' off len=>
  cases hs:Nat.beq sz' sz with
  |false=>simp[hs]at hq
  |true=>
   simp only[hs]at hq;have hs:=aY hs;subst hs;cases hg:get h id with
   |none=>simp[hg]at hq
   |some ob=>
    cases ob with
    |box _=>simp[hg]at hq
    |spc _=>simp[hg]at hq
    |arr sz'' xs=>
     simp only[hg]at hq;cases hs':Nat.beq sz'' sz' with
     |false=>simp[hs']at hq
     |true=>
      simp only[hs']at hq;have hs':=aY hs';subst hs';obtain⟨h1,h2⟩:=hq.elim;exact⟨_,aEN r hg hY h1,h2⟩
theorem oF{e:TypeId}{z:AV}(hz:oE P e=some z):∃zv i sz,(zeroValue e).run P w=.ok zv w/\P.info? e=some i/\i.size=sz/\RL E w jR z.cells zv.cells/\z.cells.length=sz/\zv.cells.size=sz:=by
 unfold oE at hz;split at hz;case h_2=>cases hz
 rename_i zc m hzc hm;split at hz;case h_2=>cases hz
 rename_i hb;simp only[aJ]at hb;obtain⟨hl,hp⟩:=hb;have hl:=aY hl;obtain⟨zv,i,h1,h2,h3,_⟩:=sU (E:=E) (w:=w) (ι:=jR) hzc;have hsz:i.size=m:=by unfold tsz at hm;simp[h3]at hm;exact hm
 have hc:z.cells=zc:=by
  unfold Xc at hz;split at hz
  ·cases hz;rfl
  ·split at hz
   ·cases hz;rename_i c;simp only[eZ,gQ,eK]at hp;cases z<;>first|rfl|simp[AV.pure1]at hp
   ·cases hz
  ·cases hz
 exact⟨zv,i,m,h1,h3,hsz,by rw[hc];exact h2,by rw[hc];exact hl,by rw[<-h2.1];exact hl⟩
theorem Em(r:Rep ι E w n h):Rep ι E w.drew n h/\Ext ι h E w ι h E w.drew:=by
 have hk:Keeps E w E w.drew:=⟨aO _,fun b _ hE=>⟨rfl,hE⟩,fun _ h=>h,fun _ _=>rfl⟩
 exact⟨⟨r.fresh,fun id o hg=>(r.obj id o hg).keep hk (fun _ _ h=>h) (fun b base hb=>r.own_E ⟨id,o,base,hg,hb⟩) (fun _ _ _=>rfl),r.sep,r.bound,r.glob.keep hk⟩,
  ⟨rfl,rfl,rfl,aO _,fun _ _ h=>h,fun _ _ _=>⟨rfl,Iff.rfl⟩,fun _ _ h=>h,fun _ h=>h,fun _ _=>rfl,Nat.le_succ _⟩⟩
theorem RL.keep{E':Nat->Prop}{w':World}{xs:List AV}{c:Array Value}(h:RL E w jR xs c)(hk:Keeps E w E' w'):RL E' w' jR xs c:=
 ⟨h.1,fun i x y hx hy=>(h.2 i x y hx hy).keep hk (fun _ _ h=>h)⟩
theorem O1(r:Rep ι E w n h){h0:Hp}(hs:Sub h0 h){sz:Nat}{xs:List AV}{c:Array Value}{t:TypeId}{cap:Nat}(hz:∀x,x∈xs->x.cells.length=sz)
  (hc:∀(k:Nat) y,(xs.flatMap AV.cells)[k]? =some y->∃u,c[k]? =some u/\Rel E w jR y u){len:Nat}(hsz:cap*sz<=c.size)(hl:len<=cap):
  ∃ι' E',Rel E' (w.alloc (.cells c t)) ι' (.os n sz 0 len) (.slice (some ⟨w.heap.size,0,none⟩) len cap)/\Rep ι' E' (w.alloc (.cells c t)) (n+1) ((n,.arr sz xs)::h0)/\Ext ι h E w ι' ((n,.arr sz xs)::h0) E' (w.alloc (.cells c t)):=by
 have ho:ORel (He E w) (w.alloc (.cells c t)) (ι.set n (some (w.heap.size,0))) n (.arr sz xs):=by
  refine Ea (b:=w.heap.size) (base:=0) (Inj.set_same _) (.inr rfl) zx hz (fun k y hk=>?_);obtain⟨u,h1,h2⟩:=hc k y hk;exact⟨u,by simpa using h1,by simp,h2.keep (tA _) (fun _ _ h=>h)⟩
 obtain⟨h1,h2⟩:=wZ (r.sub hs) (.arr sz xs) (.cells c t) ho;refine⟨_,_,?_,h1,(Ext.sub hs).trans h2⟩;have:=Rel.os (E:=He E w) (w:=w.alloc (.cells c t)) n sz 0 len w.heap.size 0 cap (Inj.set_same (ι:=ι) (n:=n) _) hl (fun j hj=>by
  simp only[fF,bM];refine⟨?_,by simp⟩;simp;omega)
 simpa using this
theorem qY(r:Rep ι E w n h){h0:Hp}(hs:Sub h0 h)(sz:Nat)(a:Option Addr):∃ι',Rel E w ι' (.os n sz 0 0) (.slice a 0 0)/\Rep ι' E w (n+1) ((n,.arr sz [])::h0)/\Ext ι h E w ι' ((n,.arr sz [])::h0) E w:=by
 have hx:=Inj.set_ext r none;have hne:∀{id o},get h0 id=some o->id≠n:=fun hg e=>by subst e;rw[(r.sub hs).get_n]at hg;cases hg
 have hset:∀{id},id≠n->(ι.set n none) id=ι id:=fun hi=>by simp[Inj.set,hi]
 refine⟨ι.set n none,.osz _ _ _ _,⟨fun id hid=>?_,fun id o hg=>?_,fun id id' o o' b base base' h1 h2 h3 h4=>?_,r.bound,r.glob⟩,⟨rfl,rfl,rfl,aO _,hx,fun b hb hn=>⟨rfl,Iff.rfl⟩,fun b hb ho=>?_,fun _ h=>h,fun _ _=>rfl,aO _⟩⟩
 ·rw[hset zo];exact r.fresh id zo
 ·rw[jA]at hg;split at hg
  ·rename_i e;subst e;cases hg;exact .inl ⟨Inj.set_same _,rfl⟩
  ·exact(r.obj id o (hs _ _ hg)).keep Keeps.refl hx (fun b base hb=>r.own_E ⟨id,o,base,hs _ _ hg,hb⟩) (fun _ _ _=>rfl)
 ·rw[jA]at h1 h2;split at h1
  ·rename_i e;subst e;rw[Inj.set_same]at h3;cases h3
  ·split at h2
   ·rename_i e;subst e;rw[Inj.set_same]at h4;cases h4
   ·rw[hset (hne h1)]at h3;rw[hset (hne h2)]at h4;exact r.sep _ _ _ _ _ _ _ (hs _ _ h1) (hs _ _ h2) h3 h4
 ·obtain⟨id,o,base,hg,hι⟩:=ho;rw[jA]at hg;split at hg
  ·rename_i e;subst e;rw[Inj.set_same]at hι;cases hι
  ·rw[hset (hne hg)]at hι;exact⟨id,o,base,hs _ _ hg,hι⟩
/-! ### append -/
theorem L3(need:Nat):∀(r c:Nat),c<need->Builtin.growBy need r c<=2*need+192
 |0,c,h=>by simp only[Builtin.growBy];omega
 |r+1,c,h=>by
  simp only[Builtin.growBy,ge_iff_le];rw[aF zo];by_cases h2:c+(c+768)/4<need
  ·exact L3 need r _ h2
  ·cases r with
   |zero=>simp only[Builtin.growBy];omega
   |succ r=>simp only[Builtin.growBy,ge_iff_le];rw[aH zo];omega
theorem Uq{need cap:Nat}(h:cap<need):Builtin.nextslicecap need cap<=2*need+192:=by
 unfold Builtin.nextslicecap;split
 ·omega
 ·split
  ·omega
  ·exact L3 need 4 cap h
structure AppSrcK (P:Program) (E:Nat->Prop) (w:World) (κ:Inj) (t' e:TypeId) (sz:Nat) (y:Value) (ys:List AV):Prop where
 len:∀x,x∈ys->x.cells.length=sz
 run:(∃e',P.underlying t'=some (.slice e')/\aEZ P E w κ sz y ys)\/
  (∃k' k:IntKind,P.underlying t'=some (.int k')/\y=.int k (ys.length:Int)/\ys.length<140737488355328/\∃z,oE P e=some z/\ys=List.replicate ys.length z)
abbrev aAd(P:Program)(E:Nat->Prop)(w:World)(t' e:TypeId)(sz:Nat)(y:Value)(ys:List AV):Prop:=AppSrcK P E w jR t' e sz y ys
theorem tQ{z:Array Value}{m sz:Nat}(hz:z.size=sz){zc:AV}(h:RL E w jR zc.cells z){k:Nat}{y:AV}(hk:((List.replicate m zc).flatMap AV.cells)[k]? =some y):
  ∃u,(Builtin.zeroCells z m)[k]? =some u/\Rel E w jR y u:=by
 obtain⟨i,x,j,h1,h2,h3,rfl⟩:=flat_get (sz:=sz) (fun x hx=>by rw[eU hx,h.1,hz]) hk;have hi:i<m:=by
  rcases aD i m with h|h
  ·exact h
  ·simp[Nat.not_lt.2 h]at h1
 simp[hi]at h1;subst h1;have hj:j<z.size:=by omega
 have hlt:i*sz+j<m*z.size:=by
  rw[hz];have:=bZ sz (Nat.succ_le_of_lt hi);rw[Nat.succ_mul]at this;omega
 refine⟨z[j],?_,h.2 j y _ h2 (bL hj)⟩;unfold Builtin.zeroCells;rw[Array.getElem?_map,Array.getElem?_range,aH hlt];simp only[dG,bN];have:(i*sz+j)%z.size=j:=by rw[hz,gR,Nat.mul_add_mod];exact Nat.mod_eq_of_lt zo
 rw[this];simp[hj]
theorem xH(z:Array Value)(m:Nat):(Builtin.zeroCells z m).size=m*z.size:=by simp[Builtin.zeroCells]
theorem wrap_small{m:Nat}(h:m<140737488355329):IntKind.i64.wrap (m:Int)=m:=by
 simp only[IntKind.wrap,IntKind.signed,IntKind.bits];simp;omega
theorem AppSrcK.use{κ:Inj}{t' e:TypeId}{sz:Nat}{y:Value}{ys:List AV}{i:TypeInfo}(hs:AppSrcK P E w κ t' e sz y ys)(hi:P.info? e=some i)(hsz:i.size=sz):
  ∃c:Array Value,RL E w κ (ys.flatMap AV.cells) c/\
   ((∃e',P.underlying t'=some (.slice e')/\(Builtin.lenOf y).run P w=.ok ys.length w/\(∀w':World,w'.heap=w.heap->(Builtin.firstCells sz ys.length y).run P w'=.ok c w'))\/
    (∃k' k:IntKind,P.underlying t'=some (.int k')/\y=.int k (ys.length:Int)/\ys.length<140737488355328/\((ys.length*sz=0/\c=#[])\/(ys.length*sz≠0/\∃zv,(∀w':World,(zeroValue e).run P w'=.ok zv w')/\c=Builtin.zeroCells zv.cells ys.length)))):=by
 obtain⟨hl,⟨e',hd,hr⟩|⟨k',k,hd,rfl,hlt,z,hz,he⟩⟩:=hs
 ·obtain⟨h1,h2,⟨c,h3,h4⟩,_⟩:=hr;exact⟨c,h4,.inl ⟨e',hd,h1,h3⟩⟩
 ·obtain⟨zv,i',sz',h1,h2,h3,h4,h5,h6⟩:=oF (E:=E) (w:=w) hz;rw[hi]at h2;cases h2;have hsz':sz'=sz:=by omega
  subst hsz';have hzv:∀w':World,(zeroValue e).run P w'=.ok zv w':=by
   intro w';have hh:=h1;simp only[zeroValue,typeInfo,Sem.run_bind,run_program,Result.andThen_ok,hi,Sem.run_pure]at hh⊢;split at hh
   ·simp at hh⊢;exact hh
   ·simp at hh
  by_cases h0:ys.length*sz'=0
  ·refine⟨#[],?_,.inr ⟨k',k,hd,rfl,hlt,.inl ⟨h0,rfl⟩⟩⟩;have:(ys.flatMap AV.cells)=[]:=by rw[<-cT,lH hl];exact h0
   rw[this];exact oZ
  ·refine⟨_,⟨?_,fun q x u hx hu=>?_⟩,.inr ⟨k',k,hd,rfl,hlt,.inr ⟨h0,zv,hzv,rfl⟩⟩⟩
   ·rw[lH hl,xH,h6]
   ·rw[he]at hx;obtain⟨u',h7,h8⟩:=tQ h6 h4 hx;rw[h7]at hu;cases hu;exact h8.keep Keeps.refl (fun _ _ h=>by simp[jR]at h)
theorem pO{κ:Inj}{t t' ty e:TypeId}{sz len cap:Nat}{base:Option Addr}{y:Value}{ys:List AV}{i:TypeInfo}(hs:AppSrcK P E w κ t' e sz y ys)(hu:P.underlying t=some (.slice e))(hi:P.info? e=some i)(hsz:i.size=sz)
  (hb:ys.length*i.bytes<=281474976710656)(hfit:len+ys.length<=cap):
  ∃c,RL E w κ (ys.flatMap AV.cells) c/\∀w2,(match base with|some a=>(storeCells (a.add (len*sz)) c.toList).run P w=.ok () w2|none=>w2=w)->
   (Builtin.append_ #[t,t'] ty #[.slice base len cap,y]).run P w=.ok (.slice base (len+ys.length) cap) w2:=by
 obtain⟨c,hrl,hrun⟩:=hs.use hi hsz;refine⟨c,hrl,fun w2 hw2=>?_⟩;have hso:(sizeOf e).run P w=.ok sz w:=by simp[sizeOf,typeInfo,hi,hsz]
 rcases hrun with⟨e',hd,hlen,hfc⟩|⟨k',k,hd,rfl,hlt,hc⟩
 ·have hfc:=hfc w rfl;cases base with
  |none=>
   subst hw2;simp[Builtin.append_,run_underlying hu,run_underlying hd,hso,hlen,hfit,hfc]
  |some a=>
   simp only at hw2;simp[Builtin.append_,run_underlying hu,run_underlying hd,hso,hlen,hfit,hfc,hw2]
 ·have hwr:=wrap_small (m:=ys.length) zo;have h1:¬((ys.length:Int)<0):=by omega
  have hti:(typeInfo e).run P w=.ok i w:=by simp[typeInfo,hi]
  have hbi:¬(281474976710656<(ys.length:Int)*(i.bytes:Int)):=by
   rw[<-Int.natCast_mul];omega
  rcases hc with⟨h0,rfl⟩|⟨h0,zv,hzv,rfl⟩
  ·cases base with
   |none=>
    subst hw2;simp[Builtin.append_,run_underlying hu,run_underlying hd,hso,asInt,asIntOf,hwr,h1,hti,hbi,hfit,h0]
   |some a=>
    simp only at hw2;simp[Builtin.append_,run_underlying hu,run_underlying hd,hso,asInt,asIntOf,hwr,h1,hti,hbi,hfit,h0];simp[hw2]
  ·cases base with
   |none=>
    subst hw2;simp[Builtin.append_,run_underlying hu,run_underlying hd,hso,asInt,asIntOf,hwr,h1,hti,hbi,hfit,hzv]
   |some a=>
    simp only at hw2;simp[Builtin.append_,run_underlying hu,run_underlying hd,hso,asInt,asIntOf,hwr,h1,hti,hbi,hfit,h0,hzv,hw2]
theorem run_append_grow{κ:Inj}{t t' ty e:TypeId}{sz len cap:Nat}{base:Option Addr}{y:Value}{ys:List AV}{i:TypeInfo}(hs:AppSrcK P E w κ t' e sz y ys)(hu:P.underlying t=some (.slice e))(hi:P.info? e=some i)(hsz:i.size=sz)(hb0:i.bytes≠0)
  (hb:(len+ys.length+96)*i.bytes<=140737488355328)(hfit:cap<len+ys.length){old:Array Value}(hold:∀w':World,w'.heap=w.heap->(Builtin.firstCells sz len (.slice base len cap)).run P w'=.ok old w')
  {z:AV}(hz:oE P e=some z):
  ∃(c rest:Array Value) (cap':Nat),RL E w κ (ys.flatMap AV.cells) c/\len+ys.length<=cap'/\rest.size=(cap'-(len+ys.length))*sz/\
   (Builtin.append_ #[t,t'] ty #[.slice base len cap,y]).run P w=.ok (.slice (some ⟨w.heap.size,0,none⟩) (len+ys.length) cap') (w.drew.alloc (.cells (old++c++rest) e)):=by
 obtain⟨c,hrl,hrun⟩:=hs.use hi hsz;have hso:∀w':World,(sizeOf e).run P w'=.ok sz w':=fun w'=>by simp[sizeOf,typeInfo,hi,hsz]
 have hti:∀w':World,(typeInfo e).run P w'=.ok i w':=fun w'=>by simp[typeInfo,hi]
 obtain⟨zv,i',sz',z1,z2,z3,z4,z5,z6⟩:=oF (E:=E) (w:=w) hz;rw[hi]at z2;cases z2;have hsz':sz'=sz:=by omega
 subst hsz';have hzv:∀w':World,(zeroValue e).run P w'=.ok zv w':=by
  intro w';have hh:=z1;simp only[zeroValue,typeInfo,Sem.run_bind,run_program,Result.andThen_ok,hi,Sem.run_pure]at hh⊢;split at hh
  ·simp at hh⊢;exact hh
  ·simp at hh
 have hneed:(len+ys.length)*i.bytes<=140737488355328:=bC (bZ _ zo) hb;have hneed2:len+ys.length<=140737488355328:=bC (Nat.le_mul_of_pos_right _ zo) hneed;have hnext:¬(281474976710656<Builtin.nextslicecap (len+ys.length) cap*i.bytes):=by
  have h1:=Uq hfit;have h2:Builtin.nextslicecap (len+ys.length) cap*i.bytes<=(2*(len+ys.length+96))*i.bytes:=bZ _ zo;rw[Nat.mul_assoc]at h2;omega
 let q:=Question.appendCap (len+ys.length) cap e
 let cap':=q.cut (w.tape w.drawn q)
 have hcap:len+ys.length<=cap':=by
  show len+ys.length<=(len+ys.length)+_;omega
 refine⟨c,Builtin.zeroCells zv.cells (cap'-(len+ys.length)),cap',hrl,hcap,by rw[xH,z6],?_⟩;have hfit':¬(len+ys.length<=cap):=by omega
 have hmax:¬((9223372036854775807:Int)<(len:Int)+(ys.length:Int)):=by omega
 have hq:(choose q).run P w=.ok cap' w.drew:=by simp[q,cap',Question.forced]
 have hold:=hold w.drew rfl;have hnr:∀(w':World) (cs:Array Value),(newRow e cs).run P w'=.ok ⟨w'.heap.size,0,none⟩ (w'.alloc (.cells cs e)):=fun w' cs=>by simp[newRow]
 rcases hrun with⟨e',hd,hlen,hfc⟩|⟨k',k,hd,rfl,hlt,hc⟩
 ·have hfc:=hfc w.drew rfl;simp[Builtin.append_,run_underlying hu,run_underlying hd,hso,hti,hlen,hfit',hfc,hnext,hold,hzv,hnr,hb0,Question.forced,cap',q]
 ·have hwr:=wrap_small (m:=ys.length) zo;have h1:¬((ys.length:Int)<0):=by omega
  have hbi:¬(281474976710656<(ys.length:Int)*(i.bytes:Int)):=by
   rw[<-Int.natCast_mul];have:ys.length*i.bytes<=(len+ys.length)*i.bytes:=bZ _ zo;omega
  have hmax':max (ys.length:Int) 0=ys.length:=by omega
  rcases hc with⟨h0,rfl⟩|⟨h0,zv',hzv',rfl⟩
  ·simp[Builtin.append_,run_underlying hu,run_underlying hd,hso,hti,asInt,asIntOf,hwr,h1,hbi,hfit',hnext,hold,hzv,hnr,h0,hmax,hmax',Question.forced,cap',q]
  ·have:zv'=zv:=by have:=(hzv' w).symm.trans (hzv w);cases this;rfl
   subst this;simp[Builtin.append_,run_underlying hu,run_underlying hd,hso,hti,asInt,asIntOf,hwr,h1,hbi,hfit',hnext,hold,hzv,hnr,h0,hmax,hmax',Question.forced,cap',q]
theorem xV{κ:Inj}{xs:List AV}{c:Array Value}(h:RL E w κ (xs.flatMap AV.cells) c)(ho:∀x,x∈xs->x.cells.all AV.one=true):∀v,v∈c.toList->v.oneCell'=true:=by
 intro v hv;obtain⟨i,hi⟩:=bH.1 hv;have hi':c[i]? =some v:=by simpa using hi
 have hlt:i<(xs.flatMap AV.cells).length:=by
  rw[h.1];rcases aD i c.size with h'|h'
  ·exact h'
  ·simp[h']at hi'
 have hx:=aE hlt;have hr:=h.2 i _ v hx hi';have hm:=dE hlt;rw[eA]at hm;obtain⟨x,hx1,hx2⟩:=hm;have:=ho x hx1;rw[bT]at this;exact Xv hr (this _ hx2)
theorem iW{s:Sem Value}{K:AV->Nat->Hp->Prop}{x:AV}{v:Value}{w':World}{ι':Inj}{E':Nat->Prop}{n':Nat}{h':Hp}(hs:s.run P w=.ok v w')(hk:K x n' h')(hr:Rel E' w' ι' x v)(hrep:Rep ι' E' w' n' h')(hx:Ext ι h E w ι' h' E' w'):
  EGives P E w ι n h (do pure (.value (<-s))) K:=⟨x,v,w',ι',E',n',h',.inl (by simp[hs]),hk,hr,hrep,hx⟩
theorem Ib(r:Rep ι E w n h){h0:Hp}(hs0:Sub h0 h){t t' ty e:TypeId}{len cap:Nat}{base:Option Addr}{y:Value}{zs ys:List AV}{i:TypeInfo}(hs:aAd P E w t' e i.size y ys)(hu:P.underlying t=some (.slice e))(hi:P.info? e=some i)(hb0:i.bytes≠0)
  (hb:(len+ys.length+96)*i.bytes<=140737488355328)(hfit:cap<len+ys.length){old:Array Value}(hold:∀w':World,w'.heap=w.heap->(Builtin.firstCells i.size len (.slice base len cap)).run P w'=.ok old w')
  {z:AV}(hz:oE P e=some z)(hzs:∀x,x∈zs->x.cells.length=i.size)(hol:RL E w jR (zs.flatMap AV.cells) old)(hlen:zs.length=len){K:AV->Nat->Hp->Prop}
  (hk:K (.os n i.size 0 (len+ys.length)) (n+1) ((n,.arr i.size (zs++ys))::h0)):
  EGives P E w ι n h (do pure (.value (<-Builtin.append_ #[t,t'] ty #[.slice base len cap,y]))) K:=by
 obtain⟨c,rest,cap',h1,h2,h3,h4⟩:=run_append_grow (ty:=ty) hs hu hi rfl hb0 hb hfit hold hz;obtain⟨rd,xd⟩:=Em r;have hkd:Keeps E w E w.drew:=xd.keeps r;have hz':∀x,x∈zs++ys->x.cells.length=i.size:=by
  intro x hx;rcases aX.1 hx with hx|hx
  ·exact hzs x hx
  ·exact hs.len x hx
 have e1:old.size=len*i.size:=by rw[<-hol.1,lH hzs,hlen]
 have e2:c.size=ys.length*i.size:=by rw[<-h1.1,lH hs.len]
 obtain⟨ι',E',g1,g2,g3⟩:=O1 rd hs0 (sz:=i.size) (xs:=zs++ys) (c:=old++c++rest) (t:=e) (cap:=cap') (len:=len+ys.length) hz' (fun k x hk=>by
  rw[gJ]at hk;by_cases hlt:k<old.size
  ·rw[bJ (by rw[hol.1];exact hlt)]at hk;refine⟨old[k],?_,(hol.2 k x _ hk (bL hlt)).keep hkd (fun _ _ h=>h)⟩;rw[gO,eM hlt];exact bL hlt
  ·rw[bF (by rw[hol.1];omega),hol.1]at hk;have hlt2:k-old.size<c.size:=by
    rw[<-h1.1];rcases aD (k-old.size) (ys.flatMap AV.cells).length with h|h
    ·exact h
    ·rw[bS h]at hk;cases hk
   refine⟨c[k-old.size],?_,(h1.2 _ x _ hk (bL hlt2)).keep hkd (fun _ _ h=>h)⟩;rw[gO,Array.getElem?_append_right zo,eM hlt2];exact bL hlt2) (by
   simp only[Array.size_append,e1,e2,h3];rw[<-cE,<-cE];exact bZ _ zo) h2
 exact iW h4 hk g1 g2 (xd.trans g3)
theorem Ia(r:Rep ι E w n h){t t' ty:TypeId}{X:AV}{x y:Value}{src:Nat->TypeId->(List AV->Prop)->Prop}{K:AV->Nat->Hp->Prop}(hX:Rel E w ι X x)
  (hsrc:∀(e:TypeId) (i:TypeInfo) (K':List AV->Prop),P.info? e=some i->src i.size e K'->∃ys,aAd P E w t' e i.size y ys/\K' ys)(hq:aFb P n h t X src K):
  EGives P E w ι n h (do pure (.value (<-Builtin.append_ #[t,t'] ty #[x,y]))) K:=by
 unfold aFb at hq;simp only[mZ]at hq;split at hq;case h_2=>exact hq.elim
 rename_i e hu;split at hq;case h_2=>exact hq.elim
 rename_i i z hi hz;split at hq;case h_1=>exact hq.elim
 rename_i b hb;have hb':i.bytes=b+1:=hb;have hb0:i.bytes≠0:=by omega
 have hfirst0:∀(a:Option Addr) (c:Nat) (w':World),w'.heap=w.heap->(Builtin.firstCells i.size 0 (.slice a 0 c)).run P w'=.ok #[] w':=by
  intro a c w' _;cases a with
  |none=>simp[Builtin.firstCells]
  |some a=>
   have:=run_loadCells_list (P:=P) w' a [] zx;simpa[Builtin.firstCells]using this
 cases X<;>simp only at hq
 case nils=>
  cases hX;obtain⟨ys,hs,hq⟩:=hsrc e i _ hi hq;obtain⟨⟨hbd,hone⟩,hk⟩:=hq.elim;rw[<-hb']at hbd;by_cases h0:ys.length=0
  ·obtain⟨c,h1,h2⟩:=pO (ty:=ty) (len:=0) (cap:=0) (base:=none) hs hu hi rfl (by rw[h0,fF];omega) zo;obtain⟨ι',g1,g2,g3⟩:=qY r (Sub.refl) i.size none;have he:ys=[]:=cT.1 h0;subst he;exact iW (h2 w rfl) hk g1 g2 g3
  ·exact Ib r Sub.refl (zs:=[]) hs hu hi hb0 (by simpa using hbd) zo (hfirst0 none 0) hz zx oZ rfl (by simpa using hk)
 case os id sz off len=>
  cases hsz:Nat.beq sz i.size with
  |false=>simp[hsz]at hq
  |true=>
   simp only[hsz]at hq;have hsz:=aY hsz;cases hg:get h id with
   |none=>simp[hg]at hq
   |some ob=>
    cases ob with
    |box _=>simp[hg]at hq
    |spc _=>simp[hg]at hq
    |arr sz' xs=>
     simp only[hg]at hq;cases hsz':Nat.beq sz' i.size with
     |false=>simp[hsz']at hq
     |true=>
      simp only[hsz']at hq;have hsz':=aY hsz';subst hsz;subst hsz';obtain⟨hle,hq⟩:=hq.elim;obtain⟨ys,hs,hq⟩:=hsrc e i _ hi hq;obtain⟨⟨hbd,hone⟩,hk⟩:=hq.elim;rw[<-hb']at hbd;have hzl:((xs.drop off).take len).length=len:=by simp;omega
      have hzz:∀x,x∈(xs.drop off).take len->x.cells.length=i.size:=fun x hx=>G9 r hg x (dZ (cP hx));have hX':=hX;cases hX with
      |osz _ _ _ a=>
       rw[cA]at hk;by_cases h0:ys.length=0
       ·obtain⟨c,h1,h2⟩:=pO (ty:=ty) (len:=0) (cap:=0) (base:=a) hs hu hi rfl (by rw[h0,fF];omega) zo;have he:ys=[]:=cT.1 h0;subst he;have hc:c=#[]:=by have:=h1.1;simp at this;exact dA this.symm
        subst hc;obtain⟨ι',g1,g2,g3⟩:=qY r (Sub.del id) i.size a;exact iW (h2 w (by cases a<;>simp[storeCells])) (by simpa using hk) g1 g2 g3
       ·exact Ib r (Sub.del id) (zs:=[]) hs hu hi hb0 (by simpa using hbd) zo (hfirst0 a 0) hz zx oZ rfl (by simpa using hk)
      |os _ _ _ _ b base cap hι hc hcell=>
       by_cases hfit:len+ys.length<=cap
       ·obtain⟨c,h1,h2⟩:=pO (ty:=ty) (len:=len) (cap:=cap) (base:=some ⟨b,base+off*i.size,none⟩) hs hu hi rfl
         (by have:ys.length*i.bytes<=(len+ys.length+96)*i.bytes:=bZ _ zo
             omega) hfit
        have e2:c.size=ys.length*i.size:=by rw[<-h1.1,lH hs.len]
        have hroom:∀j,j<c.toList.length->len*i.size+j<cap*i.size:=by
         intro j hj;have:(len+ys.length)*i.size<=cap*i.size:=bZ _ hfit;rw[cE]at this;simp only[dU]at hj;omega
        have hst:=run_storeCells_cells (P:=P) b (base+off*i.size+len*i.size) c.toList 0 w
         (fun j hj=>by have:=(hcell _ (hroom j hj)).1;rwa[<-cD,show base+off*i.size+len*i.size+j=base+off*i.size+len*i.size+0+j by omega]at this)
         (fun j hj=>by have:=(hcell _ (hroom j hj)).2;rwa[<-cD,show base+off*i.size+len*i.size+j=base+off*i.size+len*i.size+0+j by omega]at this)
         (xV h1 hone)
        have hrun:=h2 _ (by simp only[Addr.add_none];exact hst);have hw:=lS w b c.toList (base+off*i.size+len*i.size+0);have hkw:=hw.keeps (E:=E) (r.own_E ⟨id,_,base,hg,hι⟩);have hn:id≠n:=fun e=>by subst e;rw[r.get_n]at hg;cases hg
        have hfr:∀a:Addr,(w.setCells b (base+off*i.size+len*i.size+0) c.toList).frozen? a=w.frozen? a:=fun a=>hw.mark a;have horel:ORel E (w.setCells b (base+off*i.size+len*i.size+0) c.toList) (ι.set n (some (b,base+off*i.size))) n (.arr i.size ((xs.drop off).take len++ys)):=by
         refine Ea (Inj.set_same _) (r.own_E ⟨id,_,base,hg,hι⟩) (by rw[hw.size];exact own_ne r hg hι) (fun x hx=>by
          rcases aX.1 hx with hx|hx
          ·exact hzz x hx
          ·exact hs.len x hx) (fun k x hk=>?_)
         rw[gJ]at hk;have hol:(((xs.drop off).take len).flatMap AV.cells).length=len*i.size:=by rw[lH hzz,hzl]
         by_cases hlt:k<len*i.size
         ·rw[bJ zo]at hk;rcases(aKT r hg hX' hle).2 with h0|⟨b',o',e,hat⟩
          ·subst h0;omega
          ·cases e;obtain⟨u,hu1,hu2⟩:=hat k x hk;refine⟨u,?_,?_,hu2.keep hkw (fun _ _ h=>h)⟩
           ·rw[World.cell?_setCells_out b c.toList _ w _ (fun _ _=>.inl (by show base+off*i.size+k<_;omega))];exact hu1
           ·rw[hfr];have:k<cap*i.size:=by
             have:len*i.size<=cap*i.size:=bZ _ hc;omega
            exact(hcell k this).2
         ·rw[bF zo,hol]at hk;have hlt2:k-len*i.size<c.size:=by
           rw[<-h1.1];rcases aD (k-len*i.size) (ys.flatMap AV.cells).length with h|h
           ·exact h
           ·rw[bS h]at hk;cases hk
          have hlt3:k-len*i.size<c.toList.length:=by simpa using hlt2
          refine⟨c[k-len*i.size],?_,?_,(h1.2 _ x _ hk (bL hlt2)).keep hkw (fun _ _ h=>h)⟩
          ·have:=World.cell?_setCells_in b c.toList (base+off*i.size+len*i.size+0) w (fun j hj=>by
            have:=(hcell _ (hroom j hj)).1
            rwa[<-cD,show base+off*i.size+len*i.size+j=base+off*i.size+len*i.size+0+j by omega]at this) _ hlt3
           rw[show base+off*i.size+len*i.size+0+(k-len*i.size)=base+off*i.size+k by omega]at this;rw[this];simp
          ·rw[hfr];have:=(hcell _ (hroom _ hlt3)).2
           rwa[show len*i.size+(k-len*i.size)=k by omega]at this
        obtain⟨g1,g2⟩:=oR r (Sub.del id) (m:=n) (n1:=n+1) hg hι (by rw[kV,aH rfl]) hw (Inj.set_ext r _) (Inj.set_same _) (fun i hi=>by simp[Inj.set,hi]) zo
         (fun i hi=>by have:i≠n:=by omega
                       simp only[Inj.set,this,if_false];exact r.fresh i zo) horel ((r.sub (Sub.del id)).get_n)
        refine iW hrun hk ?_ g1 g2;have:=Rel.os (E:=E) (w:=w.setCells b (base+off*i.size+len*i.size+0) c.toList) n i.size 0 (len+ys.length) b (base+off*i.size) cap (Inj.set_same (ι:=ι) (n:=n) _) hfit (fun j hj=>by
         have h2:=hcell j hj;refine⟨hw.some _ (by simpa using h2.1),?_⟩;rw[hfr];simpa using h2.2)
        simpa using this
       ·obtain⟨_,_,_,hfc⟩:=aEN (P:=P) r hg hX' hle;obtain⟨old,ho1,ho2⟩:=hfc len zo;rw[aW zo]at ho2;exact Ib r (Sub.del id) hs hu hi hb0 hbd zo ho1 hz hzz ho2 hzl hk
/-! ### elements that lead on to own memory: an array that is a box -/
theorem Rs(r:Rep ι E w n h){h0:Hp}(hs:Sub h0 h){sz:Nat}{cs:List AV}{c:Array Value}{t:TypeId}{cap len:Nat}
  (hc:∀(k:Nat) y,cs[k]? =some y->∃u,c[k]? =some u/\Rel E w ι y u)(hsz:cap*sz<=c.size)(hl:len<=cap):
  ∃ι' E',Rel E' (w.alloc (.cells c t)) ι' (.os n sz 0 len) (.slice (some ⟨w.heap.size,0,none⟩) len cap)/\Rep ι' E' (w.alloc (.cells c t)) (n+1) ((n,.box cs)::h0)/\Ext ι h E w ι' ((n,.box cs)::h0) E' (w.alloc (.cells c t)):=by
 have ho:ORel (He E w) (w.alloc (.cells c t)) (ι.set n (some (w.heap.size,0))) n (.box cs):=by
  refine⟨w.heap.size,0,Inj.set_same _,.inr rfl,by simp,fun k y hk=>?_⟩;obtain⟨u,h1,h2⟩:=hc k y hk;exact⟨u,by simpa using h1,by simp,h2.keep (tA _) (Inj.set_ext r _)⟩
 obtain⟨h1,h2⟩:=wZ (r.sub hs) (.box cs) (.cells c t) ho;refine⟨_,_,?_,h1,(Ext.sub hs).trans h2⟩;have:=Rel.os (E:=He E w) (w:=w.alloc (.cells c t)) n sz 0 len w.heap.size 0 cap (Inj.set_same (ι:=ι) (n:=n) _) hl (fun j hj=>by
  simp only[fF,bM];refine⟨?_,by simp⟩;simp;omega)
 simpa using this
theorem Ld(r:Rep ι E w n h){h0:Hp}(hs0:Sub h0 h){t t' ty e:TypeId}{len cap:Nat}{base:Option Addr}{y:Value}{zs ycs:List AV}{i:TypeInfo}(hs:AppSrcK P E w ι t' e i.size y [.agg ycs])(hu:P.underlying t=some (.slice e))(hi:P.info? e=some i)(hb0:i.bytes≠0)
  (hb:(len+1+96)*i.bytes<=140737488355328)(hfit:cap<len+1){old:Array Value}(hold:∀w':World,w'.heap=w.heap->(Builtin.firstCells i.size len (.slice base len cap)).run P w'=.ok old w')
  {z:AV}(hz:oE P e=some z)(hol:RL E w ι zs old)(hlen:zs.length=len*i.size){K:AV->Nat->Hp->Prop}
  (hk:K (.os n i.size 0 (len+1)) (n+1) ((n,.box (zs++ycs))::h0)):
  EGives P E w ι n h (do pure (.value (<-Builtin.append_ #[t,t'] ty #[.slice base len cap,y]))) K:=by
 obtain⟨c,rest,cap',h1,h2,h3,h4⟩:=run_append_grow (ty:=ty) hs hu hi rfl hb0 (by simpa using hb) (by simpa using hfit) hold hz;obtain⟨rd,xd⟩:=Em r;have hkd:Keeps E w E w.drew:=xd.keeps r;have hyl:ycs.length=i.size:=hs.len (.agg ycs) zx;have e1:old.size=len*i.size:=by rw[<-hol.1,hlen]
 have hfl:([AV.agg ycs].flatMap AV.cells)=ycs:=by simp[AV.cells]
 rw[hfl]at h1;simp only[cQ]at h2 h3 h4;have e2:c.size=i.size:=by rw[<-h1.1,hyl]
 obtain⟨ι',E',g1,g2,g3⟩:=Rs rd hs0 (sz:=i.size) (cs:=zs++ycs) (c:=old++c++rest) (t:=e) (cap:=cap') (len:=len+1) (fun k x hk=>by
  by_cases hlt:k<old.size
  ·rw[bJ (by rw[hol.1];exact hlt)]at hk;refine⟨old[k],?_,(hol.2 k x _ hk (bL hlt)).keep hkd (fun _ _ h=>h)⟩;rw[gO,eM hlt];exact bL hlt
  ·rw[bF (by rw[hol.1];omega),hol.1]at hk;have hlt2:k-old.size<c.size:=by
    rw[<-h1.1];rcases aD (k-old.size) ycs.length with h|h
    ·exact h
    ·rw[bS h]at hk;cases hk
   refine⟨c[k-old.size],?_,(h1.2 _ x _ hk (bL hlt2)).keep hkd (fun _ _ h=>h)⟩;rw[gO,Array.getElem?_append_right zo,eM hlt2];exact bL hlt2) (by
   simp only[Array.size_append,e1,e2,h3];have h5:(len+1)*i.size+(cap'-(len+1))*i.size=cap'*i.size:=by rw[<-cE];congr 1;omega
   rw[cE,fQ]at h5;omega) h2
 exact iW h4 hk g1 g2 (xd.trans g3)
theorem Qd{h:Hp}{Y:AV}{ycs:List AV}(hq:S8 h Y=some ycs):∃id sz,Y=.os id sz 0 1/\get h id=some (.box ycs):=by
 unfold S8 at hq;split at hq;case h_2=>cases hq
 rename_i id sz off len;split at hq;case h_2=>cases hq
 rename_i cs hg;split at hq;case h_2=>cases hq
 rename_i hb;simp only[aJ]at hb;have b1:=aY hb.1;have b2:=aY hb.2;subst b1;subst b2;cases hq;exact⟨id,sz,rfl,hg⟩
theorem P4(r:Rep ι E w n h){t t' ty e':TypeId}{X:AV}{x y:Value}{id' sz':Nat}{ycs:List AV}{K:AV->Nat->Hp->Prop}(hX:Rel E w ι X x)(hd:P.underlying t'=some (.slice e'))(hY:Rel E w ι (.os id' sz' 0 1) y)(hgy:get h id'=some (.box ycs))(hq:aAl P n h t X ycs K):
  EGives P E w ι n h (do pure (.value (<-Builtin.append_ #[t,t'] ty #[x,y]))) K:=by
 unfold aAl at hq;simp only[mZ,nA,mK]at hq;split at hq;case h_2=>exact hq.elim
 rename_i e hu;split at hq;case h_2=>exact hq.elim
 rename_i i z hi hz;split at hq;case h_1=>exact hq.elim
 rename_i b hb;have hb':i.bytes=b+1:=hb;have hb0:i.bytes≠0:=by omega
 split at hq;case h_1=>exact hq.elim
 rename_i hc;simp only[aJ]at hc;obtain⟨hyl,hone,hbs⟩:=hc;have hyl:=aY hyl;have hbs:=cB hbs;have hs:AppSrcK P E w ι t' e i.size y [.agg ycs]:=by
  refine⟨fun x hx=>by rw[aU.1 hx];exact hyl,.inl ⟨e',hd,?_⟩⟩;cases hY with
  |os _ _ _ _ b base cap hι hc hcell=>
   obtain⟨b',base',h1,h2,h3,h4⟩:=r.obj id' _ hgy;rw[hι]at h1;cases h1;have hat:At E w ι b (base+0*sz') (([AV.agg ycs]:List AV).flatMap AV.cells):=fun k q hk=>by
    have hk:ycs[k]? =some q:=by simpa[AV.cells]using hk
    obtain⟨u,hu1,_,hu3⟩:=h4 k q hk;exact⟨u,by simpa using hu1,hu3⟩
   have hzl:∀x,x∈[AV.agg ycs]->x.cells.length=i.size:=fun x hx=>by rw[aU.1 hx];exact hyl
   exact src_of (by simp[Builtin.lenOf]) hzl (fun m hm=>I5 hzl hat m hm)
 have hfl:([AV.agg ycs].flatMap AV.cells)=ycs:=by simp[AV.cells]
 cases X<;>simp only at hq
 case nils=>
  cases hX;exact Ld r Sub.refl (zs:=[]) (len:=0) (cap:=0) hs hu hi hb0 (by rw[hb'];omega) zo (fun w' _=>by simp[Builtin.firstCells]) hz oZ zx (by simpa using hq)
 case os id sz off len=>
  cases hg:get h id with
  |none=>simp[hg]at hq
  |some ob=>
   cases ob with
   |arr _ _=>simp[hg]at hq
   |spc _=>simp[hg]at hq
   |box cs=>
    simp only[hg]at hq;split at hq;case h_2=>exact hq.elim
    rename_i hc;simp only[aJ]at hc;obtain⟨q1,q2,q3,q4,q5⟩:=hc;have q1:=aY q1;have q2:=aY q2;have q3:=aY q3;have q4:0<len:=by simpa[Nat.blt_eq]using q4
    have q5:=cB q5;subst q1;subst q2;have hbd:(len+1+96)*i.bytes<=140737488355328:=by
     rw[hb'];have:=fP (show len+1+96<=2000 by omega) hbs;omega
    cases hX with
    |osz=>omega
    |os _ _ _ _ b base cap hι hc hcell=>
     obtain⟨b',base',h1,h2,h3,h4⟩:=r.obj id _ hg;rw[hι]at h1;cases h1;have hol':∀(k:Nat) q,cs[k]? =some q->∃u,w.cell? ⟨b,base+0*i.size+k,none⟩=some u/\Rel E w ι q u:=fun k q hk=>by
      obtain⟨u,hu1,_,hu3⟩:=h4 k q hk;exact⟨u,by simpa using hu1,hu3⟩
     by_cases hfit:len+1<=cap
     ·obtain⟨c,k1,k2⟩:=pO (ty:=ty) (len:=len) (cap:=cap) (base:=some ⟨b,base+0*i.size,none⟩) hs hu hi rfl
       (by have:1*i.bytes<=(len+1+96)*i.bytes:=bZ _ zo
           simp only[cQ];omega) (by simpa using hfit)
      simp only[cQ]at k2;rw[hfl]at k1;have e2:c.size=i.size:=by rw[<-k1.1,hyl]
      have hroom:∀j,j<c.toList.length->len*i.size+j<cap*i.size:=by
       intro j hj;have:(len+1)*i.size<=cap*i.size:=bZ _ hfit;rw[cE]at this;simp only[dU]at hj;omega
      have hst:=run_storeCells_cells (P:=P) b (base+0*i.size+len*i.size) c.toList 0 w
       (fun j hj=>by have:=(hcell _ (hroom j hj)).1;rwa[<-cD,show base+0*i.size+len*i.size+j=base+0*i.size+len*i.size+0+j by omega]at this)
       (fun j hj=>by have:=(hcell _ (hroom j hj)).2;rwa[<-cD,show base+0*i.size+len*i.size+j=base+0*i.size+len*i.size+0+j by omega]at this)
       (xV (xs:=[.agg ycs]) (by rw[hfl];exact k1) (fun x hx=>by rw[aU.1 hx];exact hone))
      have hrun:=k2 _ (by simp only[Addr.add_none];exact hst);have hw:=lS w b c.toList (base+0*i.size+len*i.size+0);have hkw:=hw.keeps (E:=E) (r.own_E ⟨id,_,base,hg,hι⟩);have hn:id≠n:=fun e=>by subst e;rw[r.get_n]at hg;cases hg
      have hfr:∀a:Addr,(w.setCells b (base+0*i.size+len*i.size+0) c.toList).frozen? a=w.frozen? a:=fun a=>hw.mark a;have hxι:=Inj.set_ext r (some (b,base+0*i.size));have horel:ORel E (w.setCells b (base+0*i.size+len*i.size+0) c.toList) (ι.set n (some (b,base+0*i.size))) n (.box (cs++ycs)):=by
       refine⟨b,base+0*i.size,Inj.set_same _,h2,by rw[hw.size];exact h3,fun k x hk=>?_⟩;by_cases hlt:k<len*i.size
       ·rw[bJ zo]at hk;obtain⟨u,hu1,hu2⟩:=hol' k x hk;refine⟨u,?_,?_,hu2.keep hkw hxι⟩
        ·rw[World.cell?_setCells_out b c.toList _ w _ (fun _ _=>.inl (by show base+0*i.size+k<_;omega))];exact hu1
        ·rw[hfr];have:k<cap*i.size:=by
          have:len*i.size<=cap*i.size:=bZ _ hc;omega
         exact(hcell k this).2
       ·rw[bF zo,q3]at hk;have hlt2:k-len*i.size<c.size:=by
         rw[<-k1.1];rcases aD (k-len*i.size) ycs.length with h|h
         ·exact h
         ·rw[bS h]at hk;cases hk
        have hlt3:k-len*i.size<c.toList.length:=by simpa using hlt2
        refine⟨c[k-len*i.size],?_,?_,(k1.2 _ x _ hk (bL hlt2)).keep hkw hxι⟩
        ·have:=World.cell?_setCells_in b c.toList (base+0*i.size+len*i.size+0) w (fun j hj=>by
          have:=(hcell _ (hroom j hj)).1
          rwa[<-cD,show base+0*i.size+len*i.size+j=base+0*i.size+len*i.size+0+j by omega]at this) _ hlt3
         rw[show base+0*i.size+len*i.size+0+(k-len*i.size)=base+0*i.size+k by omega]at this;rw[this];simp
        ·rw[hfr];have:=(hcell _ (hroom _ hlt3)).2
         rwa[show len*i.size+(k-len*i.size)=k by omega]at this
      obtain⟨g1,g2⟩:=oR r (Sub.del id) (m:=n) (n1:=n+1) hg hι (by rw[kV,aH rfl]) hw hxι (Inj.set_same _) (fun i hi=>by simp[Inj.set,hi]) zo
       (fun i hi=>by have:i≠n:=by omega
                     simp only[Inj.set,this,if_false];exact r.fresh i zo) horel ((r.sub (Sub.del id)).get_n)
      refine iW hrun hq ?_ g1 g2;have:=Rel.os (E:=E) (w:=w.setCells b (base+0*i.size+len*i.size+0) c.toList) n i.size 0 (len+1) b (base+0*i.size) cap (Inj.set_same (ι:=ι) (n:=n) _) hfit (fun j hj=>by
       have h2:=hcell j hj;refine⟨hw.some _ (by simpa using h2.1),?_⟩;rw[hfr];simpa using h2.2)
      simpa using this
     ·have hat:At E w ι b (base+0*i.size) cs:=hol';obtain⟨old,ho1,ho2⟩:=G5 (P:=P) hat;rw[q3]at ho1;exact Ld r (Sub.del id) hs hu hi hb0 hbd zo (fun w' hw'=>by simpa[Builtin.firstCells]using ho1 w' hw') hz ho2 q3 hq
end
end Go.Vm
