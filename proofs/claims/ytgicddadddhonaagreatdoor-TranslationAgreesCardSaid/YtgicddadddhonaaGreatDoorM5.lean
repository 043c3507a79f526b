/- Lemmas. -/
import Derived.Test.YtgicddadddhonaaGreatDoorM4
set_option linter.unusedVariables false
set_option linter.unusedSimpArgs false
set_option maxRecDepth 100000
set_option maxHeartbeats 4000000
namespace Go.Vm
/-! ### Names in values -/
def Xr:AV->List Nat
 |.op id _=>[id]
 |.ep id _ _ _=>[id]
 |.os id _ _ _=>[id]
 |.mp id=>[id]
 |_=>[]
def zN:List AV->List Nat
 |[]=>[]
 |x::xs=>Xr x++zN xs
def Eg:AV->List Nat
 |.fn _ a b=>zN a++zN b
 |x=>Xr x
def mX:List AV->List Nat
 |[]=>[]
 |x::xs=>Eg x++mX xs
def tD:AV->List Nat
 |.agg cs=>mX cs
 |.fn _ a b=>mX a++mX b
 |x=>Eg x
def oY:List AV->List Nat
 |[]=>[]
 |x::xs=>tD x++oY xs
def Gp(i:Nat):List Nat->Bool
 |[]=>false
 |j::l=>match Nat.beq j i with
  |true=>true
  |false=>Gp i l
def dels(h:Hp):List Nat->Hp
 |[]=>h
 |i::l=>dels (del h i) l
/-! ### Freezing: own arrays and boxes in a value become values that are never written -/
def Jd(h:Hp)(x:AV)(K:AV->Prop):Prop:=
 match x with
 |.os id sz off len=>(match get h id with
  |some (.arr sz' xs)=>(match Nat.beq sz sz' with
   |true=>Sl xs off len fun ys=>K (.lst ys)
   |false=>False)
  |_=>False)
 |.op id off=>(match get h id with
  |some (.box cs)=>(match cs.all AV.pure1 with
   |true=>rD (cs.drop off) fun ds=>K (.fp ds)
   |false=>False)
  |_=>False)
 |.ep _ _ _ _=>False
 |.mp _=>False
 |.fn f a b=>(match zN a++zN b with
  |[]=>K (.fn f a b)
  |_=>False)
 |x=>K x
def Q3(h:Hp):List AV->(List AV->Prop)->Prop
 |[],K=>K []
 |x::xs,K=>Jd h x fun y=>Q3 h xs fun ys=>K (y::ys)
def aBF(h:Hp)(x:AV)(K:AV->Prop):Prop:=
 match x with
 |.agg cs=>Q3 h cs fun cs'=>K (.agg cs')
 |.fn f a b=>Q3 h a fun a'=>Q3 h b fun b'=>K (.fn f a' b')
 |x=>Jd h x K
def Wl(h:Hp):List AV->(List AV->Prop)->Prop
 |[],K=>K []
 |x::xs,K=>aBF h x fun y=>Wl h xs fun ys=>K (y::ys)
def AV.noref1:AV->Bool
 |.v _=>true
 |.sb _=>true
 |.nils=>true
 |.lst _=>true
 |.fp _=>true
 |.junk=>true
 |.fn _ [] []=>true
 |_=>false
def AV.noref:AV->Bool
 |.agg cs=>cs.all AV.noref1
 |.fn _ a b=>a.all AV.noref1&&b.all AV.noref1
 |x=>x.noref1
def Xb:Obj->Bool
 |.box cs=>cs.all AV.pure1
 |.arr _ _=>true
 |.spc (.it _ _ _ _)=>false
 |.spc _=>true
def gone:Obj->Bool
 |.box []=>true
 |_=>false
def pN:List Nat->List Obj->Nat->Hp->Hp
 |_,[],_,base=>base
 |[],o::os,n,base=>(match gone o with
  |true=>pN [] os (n+1) base
  |false=>(n,o)::pN [] os (n+1) base)
 |i::ids,o::os,n,base=>(match gone o with
  |true=>pN ids os n base
  |false=>(i,o)::pN ids os n base)
def jF:Nat->List Obj->Hp
 |_,[]=>[]
 |k,o::os=>(match gone o with
  |true=>jF (k+1) os
  |false=>(k,o)::jF (k+1) os)
def K0(P:Program)(f:FuncId):Bool:=
 match P.funcs[f]? with
 |some fn=>Nat.ble fn.ntmps 1000000&&(fn.body.isSome&& !(fn.name== "runtime.NumGoroutine"))
 |none=>false
structure ACall (P:Program) (f:FuncId) (args:List AV) (hs:List Obj) (K:AV->List Obj->Prop):Prop where
 out:K0 P f=true/\∀(ι:Inj) (E:Nat->Prop) (w:World) (vals:Array Value),Rep ι E w hs.length (jF 0 hs)->RL E w ι args vals->
  Calls P f vals w fun e w'=>∃v r hs' ι' E',e=.returned v/\K r hs'/\Rep ι' E' w' hs'.length (jF 0 hs')/\Rel E' w' ι' r v/\Ext ι (jF 0 hs) E w ι' (jF 0 hs') E' w'
section
variable {P:Program} {E:Nat->Prop} {w:World} {ι:Inj} {n:Nat} {h:Hp}
theorem ACall.elim{f:FuncId}{args:List AV}{hs:List Obj}{K:AV->List Obj->Prop}(hc:ACall P f args hs K):K0 P f=true/\∀(ι:Inj) (E:Nat->Prop) (w:World) (vals:Array Value),Rep ι E w hs.length (jF 0 hs)->RL E w ι args vals->
  Calls P f vals w fun e w'=>∃v r hs' ι' E',e=.returned v/\K r hs'/\Rep ι' E' w' hs'.length (jF 0 hs')/\Rel E' w' ι' r v/\Ext ι (jF 0 hs) E w ι' (jF 0 hs') E' w':=by
 exact hc.out
theorem ACall.intro{f:FuncId}{args:List AV}{hs:List Obj}{K:AV->List Obj->Prop}(h1:K0 P f=true)(h2:∀(ι:Inj) (E:Nat->Prop) (w:World) (vals:Array Value),Rep ι E w hs.length (jF 0 hs)->RL E w ι args vals->
  Calls P f vals w fun e w'=>∃v r hs' ι' E',e=.returned v/\K r hs'/\Rep ι' E' w' hs'.length (jF 0 hs')/\Rel E' w' ι' r v/\Ext ι (jF 0 hs) E w ι' (jF 0 hs') E' w'):ACall P f args hs K:=by
 exact⟨h1,h2⟩
theorem ACall.mono{f:FuncId}{args:List AV}{hs:List Obj}{K K':AV->List Obj->Prop}(hc:ACall P f args hs K)(hk:∀r hs',K r hs'->K' r hs'):ACall P f args hs K':=by
 obtain⟨h1,h2⟩:=hc.elim;refine .intro h1 (fun ι E w vals r hr=>(h2 ι E w vals r hr).mono ?_)
 rintro e w' ⟨v,r,hs',ι',E',a,b,c⟩
 exact⟨v,r,hs',ι',E',a,hk _ _ b,c⟩
theorem pK(h:Hp)(l:List Nat)(j:Nat):get (dels h l) j=if j∈l then none else get h j:=by
 induction l generalizing h with
 |nil=>simp[dels]
 |cons i l ih=>
  simp only[dels,ih,kV,aZ];by_cases h1:j∈l
  ·simp[h1]
  ·by_cases h2:i=j
   ·subst h2;simp[h1]
   ·simp[h1,h2,Ne.symm h2]
theorem Sub.dels(l:List Nat):Sub (dels h l) h:=fun id o hg=>by
 rw[pK]at hg;split at hg
 ·cases hg
 ·exact hg
theorem Je(r:Rep ι E w n h){S:Nat->Prop}{x:AV}{v:Value}{K:AV->Prop}(hx:Rel E w ι x v)(hS:∀id,id∈Eg x->S id)(hq:Jd h x K):∃y,Rel (Db ι h S E) w ι y v/\K y/\Eg y=[]/\(y=x\/(∃ys,y=.lst ys)\/∃cs,y=.fp cs):=by
 have hk:Keeps E w (Db ι h S E) w:=xR S;have same:Jd h x K=K x->Eg x=[]->∃y,Rel (Db ι h S E) w ι y v/\K y/\Eg y=[]/\(y=x\/(∃ys,y=.lst ys)\/∃cs,y=.fp cs):=fun e hr=>⟨x,hx.keep hk (fun _ _ h=>h),e▸hq,hr,.inl rfl⟩
 cases x with
 |os id sz off len=>
  simp only[Jd]at hq;cases hg:get h id with
  |none=>simp[hg]at hq
  |some ob=>
   cases ob with
   |box _=>simp[hg]at hq
   |spc _=>simp[hg]at hq
   |arr sz' xs=>
    simp only[hg]at hq;cases hs:Nat.beq sz sz' with
    |false=>simp[hs]at hq
    |true=>
     simp only[hs]at hq;have hs:=aY hs;subst hs;obtain⟨h1,h2⟩:=hq.elim;refine⟨_,?_,h2,rfl,.inr (.inl ⟨_,rfl⟩)⟩;have hz:=G9 r hg;have hx':=hx;cases hx with
     |osz _ _ _ a=>rw[cA];exact .lnil _ _
     |os _ _ _ _ b base cap hι hc hcell=>
      have hE:¬Db ι h S E b:=fun hh=>hh.2 ⟨id,_,base,hS id (by simp[Eg,Xr]),hg,hι⟩;have hlen:((xs.drop off).take len).length=len:=by simp;omega
      have hb:=own_ne r hg hι;rcases r.obj id _ hg with⟨h3,_⟩|⟨b',base',h3,h4,h5,h6,h7⟩
      ·rw[hι]at h3;cases h3
      ·rw[hι]at h3;cases h3;have hget:∀(i:Nat) x,((xs.drop off).take len)[i]? =some x->xs[off+i]? =some x:=by
        intro i x hx;rw[cZ]at hx;split at hx
        ·rwa[cJ]at hx
        ·cases hx
       refine .lst _ b _ _ cap sz hE hb hlen.symm hc (fun i x hx=>h6 _ x (hget i x hx)) (fun i j=>(w.cell? ⟨b,base+off*sz+i*sz+j,none⟩).getD default) (fun i x j y hx hy=>?_) (fun i x j y hx hy=>?_)
       ·obtain⟨u,hu,_⟩:=h7 _ x j y (hget i x hx) hy;rw[show base+(off+i)*sz+j=base+off*sz+i*sz+j by rw[cE];omega]at hu;simp[hu]
       ·obtain⟨u,hu,_,hr⟩:=h7 _ x j y (hget i x hx) hy;rw[show base+(off+i)*sz+j=base+off*sz+i*sz+j by rw[cE];omega]at hu;simp only[hu,cY];exact hr.keep hk (fun _ _ h=>h)
 |op id off=>
  simp only[Jd]at hq;cases hg:get h id with
  |none=>simp[hg]at hq
  |some ob=>
   cases ob with
   |arr _ _=>simp[hg]at hq
   |spc _=>simp[hg]at hq
   |box cs=>
    simp only[hg]at hq;cases hp:cs.all AV.pure1 with
    |false=>simp[hp]at hq
    |true=>
     simp only[hp]at hq;refine⟨_,?_,(by rw[nA]at hq;exact hq),rfl,.inr (.inr ⟨_,rfl⟩)⟩;cases hx with
     |op _ _ b base hι=>
      have hE:¬Db ι h S E b:=fun hh=>hh.2 ⟨id,_,base,hS id (by simp[Eg,Xr]),hg,hι⟩;obtain⟨b',base',h3,h4,h5,h6⟩:=r.obj id _ hg;rw[hι]at h3;cases h3;refine Pc hE h5 (fun j y hy=>?_);rw[cJ]at hy;obtain⟨u,hu,_,hr⟩:=h6 _ y hy;rw[bT]at hp;exact⟨u,by rw[cD];exact hu,(hr.pure1 (hp y (aG hy))).keep hk (fun _ _ h=>h)⟩
 |ep=>simp[Jd]at hq
 |mp=>simp[Jd]at hq
 |fn f a b=>
  have hn:zN a++zN b=[]:=by
   simp only[Jd]at hq;split at hq
   ·assumption
   ·exact hq.elim
  exact same (by simp only[Jd,hn]) hn
 |_=>exact same rfl rfl
theorem RL.cons{E':Nat->Prop}{ι':Inj}{x:AV}{v:Value}{xs:List AV}{vs:List Value}(h1:Rel E' w ι' x v)(h2:RL E' w ι' xs ⟨vs⟩):RL E' w ι' (x::xs) ⟨v::vs⟩:=by
 refine⟨by simp;exact h2.1,fun i a b ha hb=>?_⟩;cases i with
 |zero=>simp at ha hb;subst ha;subst hb;exact h1
 |succ i=>exact h2.2 i a b (by simpa using ha) (by simpa using hb)
theorem RL.head{x:AV}{xs:List AV}{c:Array Value}(h:RL E w ι (x::xs) c):∃v vs,c=⟨v::vs⟩/\Rel E w ι x v/\RL E w ι xs ⟨vs⟩:=by
 obtain⟨l⟩:=c;cases l with
 |nil=>have:=h.1;simp at this
 |cons v vs=>
  refine⟨v,vs,rfl,h.2 0 x v rfl rfl,by have:=h.1;simp at this⊢;exact this,fun i a b ha hb=>h.2 (i+1) a b (by simpa using ha) (by simpa using hb)⟩
theorem RL.nil{c:Array Value}(h:RL E w ι [] c):c=#[]:=by
 have:=h.1;simp at this;exact dA this.symm
theorem sJ(r:Rep ι E w n h){S:Nat->Prop}:∀{xs:List AV} {c:Array Value} {K:List AV->Prop},RL E w ι xs c->(∀id,id∈mX xs->S id)->Q3 h xs K->∃ys,RL (Db ι h S E) w ι ys c/\K ys/\mX ys=[]
 |[],c,K,hx,_,hq=>by
  cases hx.nil;exact⟨[],oZ,hq,rfl⟩
 |x::xs,c,K,hx,hS,hq=>by
  obtain⟨v,vs,rfl,h1,h2⟩:=hx.head;obtain⟨y,a1,a2,a3,_⟩:=Je r h1 (fun id hid=>hS id (by simp[mX,hid])) hq;obtain⟨ys,b1,b2,b3⟩:=sJ r h2 (fun id hid=>hS id (by simp[mX,hid])) a2;exact⟨y::ys,RL.cons a1 b1,b2,by simp[mX,a3,b3]⟩
theorem yW(r:Rep ι E w n h){S:Nat->Prop}{x:AV}{v:Value}{K:AV->Prop}(hx:Rel E w ι x v)(hS:∀id,id∈tD x->S id)(hq:aBF h x K):∃y,Rel (Db ι h S E) w ι y v/\K y/\tD y=[]:=by
 have atom:aBF h x K=Jd h x K->tD x=Eg x->∃y,Rel (Db ι h S E) w ι y v/\K y/\tD y=[]:=by
  intro e1 e2;rw[e1]at hq;rw[e2]at hS;obtain⟨y,a1,a2,a3,a4⟩:=Je r hx hS hq;refine⟨y,a1,a2,?_⟩;rcases a4 with rfl|⟨ys,rfl⟩|⟨cs,rfl⟩
  ·rw[e2];exact a3
  ·rfl
  ·rfl
 cases x with
 |agg cs=>
  cases hx with
  |agg _ c hs h=>
   obtain⟨ys,b1,b2,b3⟩:=sJ r (⟨hs,h⟩:RL E w ι cs c) hS hq;exact⟨_,.agg _ _ b1.1 b1.2,b2,b3⟩
 |fn f a b=>
  cases hx with
  |fn _ _ _ F C hF hC h1 h2=>
   obtain⟨ys,b1,b2,b3⟩:=sJ r (⟨hF,h1⟩:RL E w ι a F) (fun id hid=>hS id (by simp[tD,hid])) hq;obtain⟨zs,c1,c2,c3⟩:=sJ r (⟨hC,h2⟩:RL E w ι b C) (fun id hid=>hS id (by simp[tD,hid])) b2;exact⟨_,.fn f _ _ _ _ b1.1 c1.1 b1.2 c1.2,c2,by simp[tD,b3,c3]⟩
 |_=>exact atom rfl rfl
theorem wE(r:Rep ι E w n h){S:Nat->Prop}:∀{xs:List AV} {c:Array Value} {K:List AV->Prop},RL E w ι xs c->(∀id,id∈oY xs->S id)->Wl h xs K->∃ys,RL (Db ι h S E) w ι ys c/\K ys/\oY ys=[]
 |[],c,K,hx,_,hq=>by
  cases hx.nil;exact⟨[],oZ,hq,rfl⟩
 |x::xs,c,K,hx,hS,hq=>by
  obtain⟨v,vs,rfl,h1,h2⟩:=hx.head;obtain⟨y,a1,a2,a3⟩:=yW r h1 (fun id hid=>hS id (by simp[oY,hid])) hq;obtain⟨ys,b1,b2,b3⟩:=wE r h2 (fun id hid=>hS id (by simp[oY,hid])) a2;exact⟨y::ys,RL.cons a1 b1,b2,by simp[oY,a3,b3]⟩
theorem Rel.noref1{x:AV}{v:Value}{ι':Inj}(hx:Rel E w ι x v)(hn:x.noref1=true):Rel E w ι' x v:=by
 cases hx with
 |v=>exact .v _
 |sb b=>exact .sb b
 |nils=>exact .nils
 |lnil a c=>exact .lnil a c
 |lst xs b off n cap sz hE hb hnn hcap hz g hg h=>exact .lst xs b off n cap sz hE hb hnn hcap hz g hg h
 |fp cs b off hE hb g hg h=>exact .fp cs b off hE hb g hg h
 |junk=>exact .junk _
 |fn f fs cs F C hF hC h1 h2=>
  cases fs<;>cases cs<;>simp[AV.noref1]at hn
  exact .fn f [] [] F C hF hC (fun i x y hx _=>by simp at hx) (fun i x y hx _=>by simp at hx)
 |_=>simp[AV.noref1]at hn
theorem RL.noref1{xs:List AV}{c:Array Value}{ι':Inj}(hx:RL E w ι xs c)(hn:xs.all AV.noref1=true):RL E w ι' xs c:=by
 rw[bT]at hn;exact⟨hx.1,fun i x y h1 h2=>(hx.2 i x y h1 h2).noref1 (hn x (aG h1))⟩
theorem Rel.noref{x:AV}{v:Value}{ι':Inj}(hx:Rel E w ι x v)(hn:x.noref=true):Rel E w ι' x v:=by
 cases x with
 |agg cs=>
  cases hx with
  |agg _ c hs h=>
   have:=RL.noref1 (ι':=ι') (⟨hs,h⟩:RL E w ι cs c) hn;exact .agg _ _ this.1 this.2
 |fn f a b=>
  cases hx with
  |fn _ _ _ F C hF hC h1 h2=>
   simp only[AV.noref,aJ]at hn;have t1:=RL.noref1 (ι':=ι') (⟨hF,h1⟩:RL E w ι a F) hn.1;have t2:=RL.noref1 (ι':=ι') (⟨hC,h2⟩:RL E w ι b C) hn.2;exact .fn f _ _ _ _ t1.1 t2.1 t1.2 t2.2
 |_=>exact Rel.noref1 hx hn
theorem RL.noref{xs:List AV}{c:Array Value}{ι':Inj}(hx:RL E w ι xs c)(hn:xs.all AV.noref=true):RL E w ι' xs c:=by
 rw[bT]at hn;exact⟨hx.1,fun i x y h1 h2=>(hx.2 i x y h1 h2).noref (hn x (aG h1))⟩
theorem ORel.pure{id id':Nat}{o:Obj}{ι':Inj}(ho:ORel E w ι id o)(hp:Xb o=true)(he:ι' id'=ι id):ORel E w ι' id' o:=by
 cases o with
 |box cs=>
  obtain⟨b,base,h1,h2,h3,h4⟩:=ho;simp only[Xb,bT]at hp;refine⟨b,base,by rw[he];exact h1,h2,h3,fun i c hc=>?_⟩;obtain⟨u,h5,h6,h7⟩:=h4 i c hc;exact⟨u,h5,h6,h7.pure1 (hp c (aG hc))⟩
 |arr sz xs=>
  rcases ho with⟨h1,h2⟩|⟨b,base,h1,h2⟩
  ·exact .inl ⟨by rw[he];exact h1,h2⟩
  ·exact .inr ⟨b,base,by rw[he];exact h1,h2⟩
 |spc s=>
  obtain⟨b,base,h1,h2,h3,o,h4,h5⟩:=ho;refine⟨b,base,by rw[he];exact h1,h2,h3,o,h4,?_⟩;cases s with
  |it _ _ _ _=>cases hp
  |_=>exact h5
theorem oP:∀(os:List Obj) (k id:Nat) (o:Obj),get (jF k os) id=some o↔(k<=id/\os[id-k]? =some o/\gone o=false)
 |[],k,id,o=>by simp[jF,get]
 |x::os,k,id,o=>by
  have ih:=oP os (k+1) id o;have hne:k<=id->id≠k->(x::os)[id-k]? =os[id-(k+1)]? :=fun h1 h2=>by
   rw[show id-k=(id-(k+1))+1 by omega];rfl
  simp only[jF];cases hg:gone x with
  |true=>
   simp only;rw[ih];constructor
   ·rintro⟨h1,h2,h3⟩
    exact⟨by omega,by rw[hne zo zo];exact h2,h3⟩
   ·rintro⟨h1,h2,h3⟩
    by_cases e:id=k
    ·subst e;simp at h2;subst h2;rw[hg]at h3;cases h3
    ·exact⟨by omega,by rw[<-hne h1 e];exact h2,h3⟩
  |false=>
   simp only;rw[jA];by_cases e:k=id
   ·subst e;rw[aH rfl];simp only[aO,dH,eI,true_and,bN];constructor
    ·rintro rfl;exact⟨rfl,hg⟩
    ·rintro⟨h,_⟩;exact h
   ·rw[aF e,ih];constructor
    ·rintro⟨h1,h2,h3⟩
     exact⟨by omega,by rw[hne zo zo];exact h2,h3⟩
    ·rintro⟨h1,h2,h3⟩
     exact⟨by omega,by rw[<-hne h1 zo];exact h2,h3⟩
theorem uC:∀(ids:List Nat) (hs:List Obj) (n:Nat) (base:Hp) (id:Nat) (o:Obj),get (pN ids hs n base) id=some o->
  (∃j:Nat,ids[j]? =some id/\hs[j]? =some o/\gone o=false)\/(∃j:Nat,id=n+j/\hs[ids.length+j]? =some o/\gone o=false)\/get base id=some o
 |ids,[],n,base,id,o,h=>by simp only[pN]at h;exact .inr (.inr h)
 |[],x::hs,n,base,id,o,h=>by
  have step:get (pN [] hs (n+1) base) id=some o->(∃j:Nat,([]:List Nat)[j]? =some id/\(x::hs)[j]? =some o/\gone o=false)\/(∃j:Nat,id=n+j/\(x::hs)[([]:List Nat).length+j]? =some o/\gone o=false)\/get base id=some o:=fun h=>by
   rcases uC [] hs (n+1) base id o h with⟨j,h1,_⟩|⟨j,h1,h2,h3⟩|h1
   ·simp at h1
   ·exact .inr (.inl ⟨j+1,by omega,by simpa using h2,h3⟩)
   ·exact .inr (.inr h1)
  simp only[pN]at h;split at h
  ·exact step h
  ·rename_i hg;rw[jA]at h;split at h
   ·rename_i e;subst e;cases h;exact .inr (.inl ⟨0,rfl,rfl,hg⟩)
   ·exact step h
 |i::ids,x::hs,n,base,id,o,h=>by
  have step:get (pN ids hs n base) id=some o->(∃j:Nat,(i::ids)[j]? =some id/\(x::hs)[j]? =some o/\gone o=false)\/(∃j:Nat,id=n+j/\(x::hs)[(i::ids).length+j]? =some o/\gone o=false)\/get base id=some o:=fun h=>by
   rcases uC ids hs n base id o h with⟨j,h1,h2,h3⟩|⟨j,h1,h2,h3⟩|h1
   ·exact .inl ⟨j+1,by simpa using h1,by simpa using h2,h3⟩
   ·exact .inr (.inl ⟨j,h1,by simp only[aB];rw[show ids.length+1+j=(ids.length+j)+1 by omega];exact h2,h3⟩)
   ·exact .inr (.inr h1)
  simp only[pN]at h;split at h
  ·exact step h
  ·rename_i hg;rw[jA]at h;split at h
   ·rename_i e;subst e;cases h;exact .inl ⟨0,rfl,rfl,hg⟩
   ·exact step h
/-! ### Names changed -/
def R7(ρ:Nat->Option Nat)(x:AV):AV:=
 match x with
 |.op id off=>(match ρ id with
  |some j=>.op j off
  |none=>.junk)
 |.ep id sz i off=>(match ρ id with
  |some j=>.ep j sz i off
  |none=>.junk)
 |.os id sz off len=>(match ρ id with
  |some j=>.os j sz off len
  |none=>.junk)
 |.mp id=>(match ρ id with
  |some j=>.mp j
  |none=>.junk)
 |.agg _=>.junk
 |.tup _=>.junk
 |.fn f [] []=>.fn f [] []
 |.fn _ _ _=>.junk
 |x=>x
def Xw(ρ:Nat->Option Nat):List AV->List AV
 |[]=>[]
 |x::xs=>R7 ρ x::Xw ρ xs
def aJC(ρ:Nat->Option Nat)(x:AV):AV:=
 match x with
 |.fn f a b=>.fn f (Xw ρ a) (Xw ρ b)
 |x=>R7 ρ x
def Ke(ρ:Nat->Option Nat):List AV->List AV
 |[]=>[]
 |x::xs=>aJC ρ x::Ke ρ xs
def aEC(ρ:Nat->Option Nat):Spc->Spc
 |.it mid τ L l=>.it (match mid with|some i=>ρ i|none=>none) τ L l
 |s=>s
def tP(ρ:Nat->Option Nat):Obj->Obj
 |.box cs=>.box (Ke ρ cs)
 |.arr sz xs=>.arr sz xs
 |.spc s=>.spc (aEC ρ s)
def aRd(ρ:Nat->Option Nat)(s:Spc)(K:Spc->Prop):Prop:=
 match s with
 |.m f=>K (.m f)
 |.mt f τ=>K (.mt f τ)
 |.it mid τ L l=>(match mid with
  |some i=>(match ρ i with
   |some j=>K (.it (some j) τ L l)
   |none=>K (.it none τ L l))
  |none=>K (.it none τ L l))
theorem aJE(ρ:Nat->Option Nat)(s:Spc)(K:Spc->Prop):aRd ρ s K=K (aEC ρ s):=by
 cases s with
 |it mid τ L l=>
  cases mid with
  |none=>rfl
  |some i=>simp only[aRd,aEC];cases ρ i<;>rfl
 |_=>rfl
def rH(ρ:Nat->Option Nat):List Obj->(List Obj->Prop)->Prop
 |[],K=>K []
 |.box cs::r,K=>rD (Ke ρ cs) fun ds=>rH ρ r fun r'=>K (.box ds::r')
 |.arr sz xs::r,K=>rH ρ r fun r'=>K (.arr sz xs::r')
 |.spc s::r,K=>aRd ρ s fun s'=>rH ρ r fun r'=>K (.spc s'::r')
theorem oQ(ρ:Nat->Option Nat):∀(os:List Obj) (K:List Obj->Prop),rH ρ os K=K (os.map (tP ρ))
 |[],K=>rfl
 |.box cs::r,K=>by simp only[rH,nA,oQ ρ r,aR,tP]
 |.arr sz xs::r,K=>by simp only[rH,oQ ρ r,aR,tP]
 |.spc s::r,K=>by simp only[rH,aJE,oQ ρ r,aR,tP]
theorem sL(ρ:Nat->Option Nat)(o:Obj):gone (tP ρ o)=gone o:=by
 cases o with
 |box cs=>cases cs<;>rfl
 |arr sz xs=>rfl
 |spc s=>rfl
def idxOf(i:Nat):List Nat->Nat->Option Nat
 |[],_=>none
 |j::l,k=>match Nat.beq j i with
  |true=>some k
  |false=>idxOf i l (k+1)
def sO(h:Hp):List Nat->Option (List Obj)
 |[]=>some []
 |i::l=>match get h i,sO h l with
  |some o,some os=>some (o::os)
  |_,_=>none
theorem R8{ρ:Nat->Option Nat}{ι':Inj}(hρ:∀id j p,ρ id=some j->ι id=some p->ι' j=some p){x:AV}{v:Value}(hx:Rel E w ι x v):Rel E w ι' (R7 ρ x) v:=by
 cases hx with
 |v y=>exact .v _
 |sb b=>exact .sb b
 |nils=>exact .nils
 |lnil a c=>exact .lnil a c
 |lst xs b off n cap sz hE hb hn hcap hz g hg h=>exact .lst xs b off n cap sz hE hb hn hcap hz g hg h
 |fp cs b off hE hb g hg h=>exact .fp cs b off hE hb g hg h
 |junk y=>exact .junk _
 |agg cs c=>exact .junk _
 |tup cs c=>exact .junk _
 |fn f fs cs F C hF hC h1 h2=>
  cases fs with
  |nil=>cases cs with
   |nil=>exact .fn f [] [] F C hF hC (fun i x y hx _=>by simp at hx) (fun i x y hx _=>by simp at hx)
   |cons c cs=>exact .junk _
  |cons c cs=>exact .junk _
 |op id off b base hι=>
  simp only[R7];cases hj:ρ id with
  |none=>exact .junk _
  |some j=>exact .op j off b base (hρ _ _ _ hj hι)
 |ep id sz i off b base hι=>
  simp only[R7];cases hj:ρ id with
  |none=>exact .junk _
  |some j=>exact .ep j sz i off b base (hρ _ _ _ hj hι)
 |osz id sz off a=>
  simp only[R7];cases hj:ρ id with
  |none=>exact .junk _
  |some j=>exact .osz j sz off a
 |os id sz off len b base cap hι hc hcell=>
  simp only[R7];cases hj:ρ id with
  |none=>exact .junk _
  |some j=>exact .os j sz off len b base cap (hρ _ _ _ hj hι) hc hcell
 |mp id b base hι=>
  simp only[R7];cases hj:ρ id with
  |none=>exact .junk _
  |some j=>exact .mp j b base (hρ _ _ _ hj hι)
 |dfr=>exact .dfr _ _ _
theorem F0{ρ:Nat->Option Nat}{ι':Inj}(hρ:∀id j p,ρ id=some j->ι id=some p->ι' j=some p):∀{xs:List AV} {c:Array Value},RL E w ι xs c->RL E w ι' (Xw ρ xs) c
 |[],c,hx=>by cases hx.nil;exact oZ
 |x::xs,c,hx=>by
  obtain⟨v,vs,rfl,h1,h2⟩:=hx.head;exact RL.cons (R8 hρ h1) (F0 hρ h2)
theorem Kc{ρ:Nat->Option Nat}{ι':Inj}(hρ:∀id j p,ρ id=some j->ι id=some p->ι' j=some p){x:AV}{v:Value}(hx:Rel E w ι x v):Rel E w ι' (aJC ρ x) v:=by
 cases x with
 |fn f a b=>
  cases hx with
  |fn _ _ _ F C hF hC h1 h2=>
   have k1:=F0 hρ (⟨hF,h1⟩:RL E w ι a F);have k2:=F0 hρ (⟨hC,h2⟩:RL E w ι b C);exact .fn f _ _ _ _ k1.1 k2.1 k1.2 k2.2
 |_=>exact R8 hρ hx
theorem Ek{ρ:Nat->Option Nat}{ι':Inj}(hρ:∀id j p,ρ id=some j->ι id=some p->ι' j=some p):∀{xs:List AV} {c:Array Value},RL E w ι xs c->RL E w ι' (Ke ρ xs) c
 |[],c,hx=>by cases hx.nil;exact oZ
 |x::xs,c,hx=>by
  obtain⟨v,vs,rfl,h1,h2⟩:=hx.head;exact RL.cons (Kc hρ h1) (Ek hρ h2)
theorem uU:∀{l:List Nat} {i k q:Nat},idxOf i l k=some q->k<=q/\l[q-k]? =some i
 |[],i,k,q,h=>by simp[idxOf]at h
 |j::l,i,k,q,h=>by
  simp only[idxOf]at h;split at h
  ·rename_i hb;have:=aY hb;subst this;cases h;exact⟨aO _,by simp⟩
  ·obtain⟨h1,h2⟩:=uU h;refine⟨by omega,?_⟩;rw[show q-k=(q-(k+1))+1 by omega];exact h2
theorem ORel.ren{id id':Nat}{o:Obj}{ι':Inj}{ρ:Nat->Option Nat}(ho:ORel E w ι id o)(hρ:∀id j p,ρ id=some j->ι id=some p->ι' j=some p)(he:ι' id'=ι id):ORel E w ι' id' (tP ρ o):=by
 cases o with
 |box cs=>
  obtain⟨b,base,h1,h2,h3,h4⟩:=ho;refine⟨b,base,by rw[he];exact h1,h2,h3,fun i c hc=>?_⟩;have hl:∀(l:List AV) (k:Nat),(Ke ρ l)[k]? =(l[k]?).map (aJC ρ):=by
   intro l
   induction l with
   |nil=>intro k;simp[Ke]
   |cons x xs ih=>intro k;cases k with
    |zero=>simp[Ke]
    |succ k=>simpa[Ke]using ih k
  rw[hl,bW]at hc;obtain⟨c0,h5,rfl⟩:=hc;obtain⟨u,h6,h7,h8⟩:=h4 i c0 h5;exact⟨u,h6,h7,Kc hρ h8⟩
 |arr sz xs=>
  rcases ho with⟨h1,h2⟩|⟨b,base,h1,h2⟩
  ·exact .inl ⟨by rw[he];exact h1,h2⟩
  ·exact .inr ⟨b,base,by rw[he];exact h1,h2⟩
 |spc s=>
  obtain⟨b,base,h1,h2,h3,o,h4,h5⟩:=ho;refine⟨b,base,by rw[he];exact h1,h2,h3,o,h4,?_⟩;cases s with
  |it mid τ L l=>
   obtain⟨k0,bm,since,seen,c0,k1,k2,k3⟩:=h5;refine⟨k0,bm,since,seen,c0,k1,fun j e=>?_,k3⟩;cases mid with
   |none=>cases e
   |some i=>obtain⟨bb,hb⟩:=k2 i rfl;exact⟨bb,hρ _ _ _ e hb⟩
  |_=>exact h5
def inN(ids:List Nat)(i:Nat):Option Nat:=idxOf i ids 0
def backTo(ids:List Nat)(n:Nat)(j:Nat):Option Nat:=
 match ids[j]? with
 |some id=>some id
 |none=>some (n+(j-ids.length))
def jQ(ι:Inj)(ids:List Nat):Inj:=fun j=>match ids[j]? with
 |some id=>ι id
 |none=>none
theorem Ij(r:Rep ι E w n h){ids:List Nat}{objs:List Obj}(hnd:ids.Nodup)(hl:ids.length=objs.length)(ho:∀(j:Nat) id o,ids[j]? =some id->objs[j]? =some o->gone o=false->get h id=some o):
  Rep (jQ ι ids) E w (objs.map (tP (inN ids))).length (jF 0 (objs.map (tP (inN ids)))):=by
 have hget:∀(j:Nat) o,get (jF 0 (objs.map (tP (inN ids)))) j=some o->∃id o0,ids[j]? =some id/\objs[j]? =some o0/\get h id=some o0/\jQ ι ids j=ι id/\o=tP (inN ids) o0:=by
  intro j o hj;rw[oP]at hj;simp only[aK,true_and,eV,bX,bW]at hj;obtain⟨⟨o0,hj,rfl⟩,hgn⟩:=hj;rw[sL]at hgn;have hlt:j<ids.length:=by
   rw[hl];rcases aD j objs.length with h|h
   ·exact h
   ·simp[h]at hj
  have hi:=aE hlt;exact⟨_,o0,hi,hj,ho _ _ _ hi hj hgn,by simp[jQ,hi],rfl⟩
 have hρ:∀id j p,inN ids id=some j->ι id=some p->jQ ι ids j=some p:=by
  intro id j p hj hp;obtain⟨_,h5⟩:=uU hj;simp only[eV]at h5;simp[jQ,h5,hp]
 refine⟨fun j hj=>?_,fun j o hj=>?_,fun j j' o o' b base base' h1 h2 h3 h4=>?_,r.bound,r.glob⟩
 ·rw[aA]at hj;simp[jQ,bS (show ids.length<=j by omega)]
 ·obtain⟨id,o0,a1,a2,a3,a4,rfl⟩:=hget j o hj;exact(r.obj id o0 a3).ren hρ a4
 ·obtain⟨id,_,a1,a2,a3,a4,_⟩:=hget j o h1;obtain⟨id',_,b1,b2,b3,b4,_⟩:=hget j' o' h2;rw[a4]at h3;rw[b4]at h4;have:=r.sep _ _ _ _ _ _ _ a3 b3 h3 h4;subst this;have hj1:j<ids.length:=by
   rcases aD j ids.length with h|h
   ·exact h
   ·simp[h]at a1
  exact(List.getElem?_inj hj1 hnd).1 (a1.trans b1.symm)
theorem Y8(r:Rep ι E w n h){ids:List Nat}{objs hs':List Obj}(hnd:ids.Nodup)(hl:ids.length=objs.length)(ho:∀(j:Nat) id o,ids[j]? =some id->objs[j]? =some o->get h id=some o)
  {ι':Inj}{E':Nat->Prop}{w':World}(hle:ids.length<=hs'.length)(r':Rep ι' E' w' hs'.length (jF 0 hs'))(x:Ext (jQ ι ids) (jF 0 (objs.map (tP (inN ids)))) E w ι' (jF 0 hs') E' w'):
  Rep (fun id=>if id<n then ι id else ι' (ids.length+(id-n))) E' w' (n+(hs'.length-ids.length)) (pN ids (hs'.map (tP (backTo ids n))) n (dels h ids))/\
  Ext ι h E w (fun id=>if id<n then ι id else ι' (ids.length+(id-n))) (pN ids (hs'.map (tP (backTo ids n))) n (dels h ids)) E' w'/\
  (∀id j p,backTo ids n id=some j->ι' id=some p->(fun id=>if id<n then ι id else ι' (ids.length+(id-n))) j=some p):=by
 have hlt:∀id p,ι id=some p->id<n:=by
  intro id p hp;rcases aD id n with h|h
  ·exact h
  ·rw[r.fresh id h]at hp;cases hp
 have hget0:∀{id o},get h id=some o->id<n:=by
  intro id o hg;have:=r.obj id o hg;cases o with
  |box cs=>obtain⟨b,base,h1,_⟩:=this;exact hlt _ _ h1
  |spc s=>obtain⟨b,base,h1,_⟩:=this;exact hlt _ _ h1
  |arr sz xs=>
   rcases this with⟨h1,_⟩|⟨b,base,h1,_⟩
   ·exact hlt _ _ h1
   ·exact hlt _ _ h1
 have hidin:∀{j id:Nat},ids[j]? =some id->∃o,objs[j]? =some o/\get h id=some o:=by
  intro j id hj;have hj':j<objs.length:=by
   rw[<-hl];rcases aD j ids.length with h|h
   ·exact h
   ·simp[h]at hj
  exact⟨_,aE hj',ho _ _ _ hj (aE hj')⟩
 -- the callee's names mean what the caller's do
 have hcal:∀{j id:Nat},ids[j]? =some id->ι' j=ι id:=by
  intro j id hj;obtain⟨o,h1,h2⟩:=hidin hj;have h3:jQ ι ids j=ι id:=by simp[jQ,hj]
  cases hq:ι id with
  |none=>
   have:=r.obj id o h2;cases o with
   |box cs=>obtain⟨b,base,h4,_⟩:=this;rw[hq]at h4;cases h4
   |spc s=>obtain⟨b,base,h4,_⟩:=this;rw[hq]at h4;cases h4
   |arr sz xs=>
    rcases this with⟨h4,_⟩|⟨b,base,h4,_⟩<;>(rw[hq]at h4;cases h4)
  |some p=>exact x.inj j p (by rw[h3,hq])
 have hown:∀{b},Own (jQ ι ids) (jF 0 (objs.map (tP (inN ids)))) b->∃(j id:Nat) (o:Obj) (base:Nat),ids[j]? =some id/\get h id=some o/\ι id=some (some (b,base)):=by
  rintro b ⟨j,o,base,h1,h2⟩
  rw[oP]at h1;simp only[aK,true_and,eV,bX,bW]at h1;obtain⟨⟨o0,h1,rfl⟩,_⟩:=h1;have hj:j<ids.length:=by
   rw[hl];rcases aD j objs.length with h|h
   ·exact h
   ·simp[h]at h1
  have hi:=aE hj;refine⟨j,_,o0,base,hi,ho _ _ _ hi h1,?_⟩;simp only[jQ,hi]at h2;exact h2
 have hnotown:∀{id o b base},get (dels h ids) id=some o->ι id=some (some (b,base))->¬Own (jQ ι ids) (jF 0 (objs.map (tP (inN ids)))) b:=by
  intro id o b base hg hb hO;obtain⟨j,id',o',base',h1,h2,h3⟩:=hown hO;have:=r.sep _ _ _ _ _ _ _ (Sub.dels ids _ _ hg) h2 hb h3;subst this;rw[pK,aH (aG h1)]at hg;cases hg
 have hin:∀id p,ι id=some p->(fun id=>if id<n then ι id else ι' (ids.length+(id-n))) id=some p:=by
  intro id p hp;simp only[hlt id p hp,if_true];exact hp
 have hk:∀b,b<w.heap.size->¬Own (jQ ι ids) (jF 0 (objs.map (tP (inN ids)))) b->w'.heap[b]? =w.heap[b]? /\(E' b↔E b):=x.old;have hkeep:Keeps E w E' w':=⟨x.size,fun b hb hE=>by
  have hno:¬Own (jQ ι ids) (jF 0 (objs.map (tP (inN ids)))) b:=fun hO=>by
   obtain⟨j,id,o,base,h1,h2,h3⟩:=hown hO;exact hE (r.own_E ⟨id,o,base,h2,h3⟩)
  obtain⟨a,c⟩:=hk b hb hno;exact⟨a,fun h=>hE (c.1 h)⟩,x.some,fun a ha=>x.mark a (lt_of_cell ha)⟩
 have hback:∀id j p,backTo ids n id=some j->ι' id=some p->(if j<n then ι j else ι' (ids.length+(j-n)))=some p:=by
  intro id j p hj hp;unfold backTo at hj;cases hi:ids[id]? with
  |some q=>
   simp only[hi,bN]at hj;subst hj;obtain⟨_,_,h3⟩:=hidin hi;rw[aH (hget0 h3),<-hcal hi];exact hp
  |none=>
   simp only[hi,bN]at hj;subst hj;have hge:ids.length<=id:=by
    rcases aD id ids.length with h'|h'
    ·simp[h']at hi
    ·exact h'
   rw[aF zo,<-hp];congr 1;omega
 refine⟨⟨fun id hid=>?_,fun id o hg=>?_,fun id id' o o' b base base' h1 h2 h3 h4=>?_,r'.bound,r'.glob⟩,⟨x.os,x.tape,x.output,x.size,hin,fun b hb hno=>?_,fun b hb hO=>?_,x.some,x.mark,x.drawn⟩,hback⟩
 ·simp only[show ¬id<n by omega,if_false];exact r'.fresh _ zo
 ·rcases uC _ _ _ _ _ _ hg with⟨j,h1,h2,hgn⟩|⟨j,rfl,h2,hgn⟩|h1
  ·obtain⟨o',_,h3⟩:=hidin h1;rw[bX,bW]at h2;obtain⟨o0,h2,rfl⟩:=h2;rw[sL]at hgn;have hj:get (jF 0 hs') j=some o0:=by rw[oP];exact⟨aK _,by simpa using h2,hgn⟩
   refine(r'.obj j o0 hj).ren hback ?_;simp only[hget0 h3,if_true];exact(hcal h1).symm
  ·rw[bX,bW]at h2;obtain⟨o0,h2,rfl⟩:=h2;rw[sL]at hgn;have hj:get (jF 0 hs') (ids.length+j)=some o0:=by rw[oP];exact⟨aK _,by simpa using h2,hgn⟩
   refine(r'.obj _ o0 hj).ren hback ?_;simp;intro h;omega
  ·have hg':=Sub.dels ids _ _ h1;refine(r.obj id o hg').keep hkeep hin (fun b base hb=>?_) (fun b base hb=>?_)
   ·have:=own_ne r hg' hb;exact(hk b this (hnotown h1 hb)).2.2 (r.own_E ⟨id,o,base,hg',hb⟩)
   ·exact(hk b (own_ne r hg' hb) (hnotown h1 hb)).1
 · -- apart
   have cls:∀{id o b base},get (pN ids (hs'.map (tP (backTo ids n))) n (dels h ids)) id=some o->(if id<n then ι id else ι' (ids.length+(id-n)))=some (some (b,base))->
     (∃(j:Nat) (o0:Obj),get (jF 0 hs') j=some o0/\ι' j=some (some (b,base))/\((ids[j]? =some id/\id<n)\/(j=ids.length+(id-n)/\n<=id)))\/(get (dels h ids) id=some o/\ι id=some (some (b,base))/\id<n):=by
    intro id o b base hg hb;rcases uC _ _ _ _ _ _ hg with⟨j,h1,h2,hgn⟩|⟨j,rfl,h2,hgn⟩|h1
    ·obtain⟨o',_,h3⟩:=hidin h1;rw[aH (hget0 h3)]at hb;rw[bX,bW]at h2;obtain⟨o0,h2,rfl⟩:=h2;rw[sL]at hgn;exact .inl ⟨j,o0,by rw[oP];exact⟨aK _,by simpa using h2,hgn⟩,by rw[hcal h1];exact hb,.inl ⟨h1,hget0 h3⟩⟩
    ·rw[aF zo]at hb;rw[bX,bW]at h2;obtain⟨o0,h2,rfl⟩:=h2;rw[sL]at hgn;exact .inl ⟨ids.length+j,o0,by rw[oP];exact⟨aK _,by simpa using h2,hgn⟩,by simpa using hb,.inr ⟨by omega,by omega⟩⟩
    ·have hl':=hget0 (Sub.dels ids _ _ h1);rw[aH hl']at hb;exact .inr ⟨h1,hb,hl'⟩
   have mixed:∀{id o b base j o' base'},get (dels h ids) id=some o->ι id=some (some (b,base))->get (jF 0 hs') j=some o'->ι' j=some (some (b,base'))->False:=by
    intro id o b base j o' base' a1 a2 a3 a4;have hb:=own_ne r (Sub.dels ids _ _ a1) a2;exact hnotown a1 a2 (x.own b hb ⟨j,o',base',a3,a4⟩)
   rcases cls h1 h3 with⟨j,_,a1,a2,a3⟩|⟨a1,a2,a3⟩<;>rcases cls h2 h4 with⟨j',_,b1,b2,b3⟩|⟨b1,b2,b3⟩
   ·have:=r'.sep _ _ _ _ _ _ _ a1 b1 a2 b2;subst this;rcases a3 with⟨c1,c2⟩|⟨c1,c2⟩<;>rcases b3 with⟨d1,d2⟩|⟨d1,d2⟩
    ·rw[c1]at d1;cases d1;rfl
    ·have:j<ids.length:=by
      rcases aD j ids.length with h|h
      ·exact h
      ·simp[h]at c1
     omega
    ·have:j<ids.length:=by
      rcases aD j ids.length with h|h
      ·exact h
      ·simp[h]at d1
     omega
    ·omega
   ·exact(mixed b1 b2 a1 a2).elim
   ·exact(mixed a1 a2 b1 b2).elim
   ·exact r.sep _ _ _ _ _ _ _ (Sub.dels ids _ _ a1) (Sub.dels ids _ _ b1) a2 b2
 ·exact hk b hb (fun hO=>by
   obtain⟨j,id,o,base,h1,h2,h3⟩:=hown hO;exact hno ⟨id,o,base,h2,h3⟩)
 ·obtain⟨id,o,base,hg,hb'⟩:=hO;rcases uC _ _ _ _ _ _ hg with⟨j,h1,h2,hgn⟩|⟨j,rfl,h2,hgn⟩|h1
  ·obtain⟨o',_,h3⟩:=hidin h1;simp only[hget0 h3,if_true]at hb';exact⟨id,o',base,h3,hb'⟩
  ·simp only[show ¬n+j<n by omega,if_false]at hb';rw[bX,bW]at h2;obtain⟨o0,h2,rfl⟩:=h2;rw[sL]at hgn;have hO:Own ι' (jF 0 hs') b:=⟨ids.length+j,o0,base,by rw[oP];exact⟨aK _,by simpa using h2,hgn⟩,by simpa using hb'⟩
   obtain⟨j',id',o',base',a1,a2,a3⟩:=hown (x.own b hb hO);exact⟨id',o',base',a2,a3⟩
  ·have hl':=hget0 (Sub.dels ids _ _ h1);simp only[hl',if_true]at hb';exact⟨id,o,base,Sub.dels ids _ _ h1,hb'⟩
end
def aRc(ρ:Nat->Option Nat)(x:AV):AV:=
 match x with
 |.agg cs=>.agg (Ke ρ cs)
 |.fn f a b=>.fn f (Ke ρ a) (Ke ρ b)
 |x=>aJC ρ x
def R9(ρ:Nat->Option Nat):List AV->List AV
 |[]=>[]
 |x::xs=>aRc ρ x::R9 ρ xs
def aJF(ρ:Nat->Option Nat)(x:AV):AV:=
 match x with
 |.tup vs=>.tup (R9 ρ vs)
 |x=>aRc ρ x
def addN(l:List Nat):List Nat->List Nat
 |[]=>l
 |i::r=>match Gp i l with
  |true=>addN l r
  |false=>addN (l++[i]) r
def aVP:Obj->List Nat
 |.box cs=>mX cs
 |.arr _ _=>[]
 |.spc _=>[]
def R4(h:Hp):List Nat->List Nat
 |[]=>[]
 |i::l=>match get h i with
  |some o=>aVP o++R4 h l
  |none=>R4 h l
def E9(h:Hp):Nat->List Nat->List Nat
 |0,l=>l
 |k+1,l=>match Nat.beq (addN l (R4 h l)).length l.length with
  |true=>l
  |false=>E9 h k (addN l (R4 h l))
def Nw(h:Hp):Nat->List Nat->(List Nat->Prop)->Prop
 |0,l,K=>K l
 |k+1,l,K=>Jb (addN l (R4 h l)) fun l'=>match Nat.beq l'.length l.length with
  |true=>K l
  |false=>Nw h k l' K
theorem Lo(h:Hp):∀(k:Nat) (l:List Nat) (K:List Nat->Prop),Nw h k l K=K (E9 h k l)
 |0,l,K=>rfl
 |k+1,l,K=>by
  simp only[Nw,E9,wC];split
  ·rfl
  ·exact Lo h k _ K
def J5(h:Hp)(all:List AV):List Nat:=E9 h 4 (addN [] (oY all))
def aQU(h:Hp)(all:List AV)(K:List Nat->Prop):Prop:=Jb (addN [] (oY all)) fun l=>Nw h 4 l K
theorem aJt(h:Hp)(all:List AV)(K:List Nat->Prop):aQU h all K=K (J5 h all):=by rw[aQU,wC,Lo];rfl
def AV.flat1:AV->Bool
 |.v _=>true
 |.sb _=>true
 |.nils=>true
 |.junk=>true
 |.lst []=>true
 |_=>false
def AV.flatA:AV->Bool
 |.agg cs=>cs.all AV.flat1
 |x=>x.flat1
def AV.flat:AV->Bool
 |.tup cs=>cs.all AV.flatA
 |x=>x.flatA
def aVz(r:AV)(hs:List Obj):Bool:=
 match hs with
 |[]=>r.flat
 |_::_=>true
def aCN(n:Nat)(h:Hp)(r:AV)(hs:List Obj)(K:AV->Nat->Hp->Prop):Prop:=
 match hs with
 |[]=>(match r.flat with
  |true=>K r n h
  |false=>False)
 |[.arr sz xs]=>(match r with
  |.os 0 sz' off len=>Ob (∀x,x∈xs->x.cells.all AV.flat1=true) (K (.os n sz' off len) (n+1) ((n,.arr sz xs)::h))
  |.tup [.os 0 sz' off len,y]=>(match y.flatA with
   |true=>Ob (∀x,x∈xs->x.cells.all AV.flat1=true) (K (.tup [.os n sz' off len,y]) (n+1) ((n,.arr sz xs)::h))
   |false=>False)
  |_=>False)
 |[.box (c::cs)]=>(match r with
  |.op 0 off=>(match(c::cs).all AV.flat1 with
   |true=>K (.op n off) (n+1) ((n,.box (c::cs))::h)
   |false=>False)
  |_=>False)
 |_=>False
def rM(sz:Nat):Nat->List AV->List AV
 |0,_=>[]
 |k+1,cs=>.agg (cs.take sz)::rM sz k (cs.drop sz)
def flatK(h:Hp)(X:AV)(K:Hp->Prop):Prop:=
 match X with
 |.os id sz _ len=>(match get h id with
  |some (.box cs)=>(match Gp id (mX cs)with
   |false=>Q3 h cs fun ds=>(match Nat.beq ds.length (len*sz)&&ds.all AV.pure1 with
    |true=>Dt (rM sz len ds) fun xs=>oV (dels (del h id) (mX cs)) fun h'=>K ((id,.arr sz xs)::h')
    |false=>False)
   |true=>False)
  |_=>K h)
 |_=>K h
def Mb(b:Bool)(h:Hp):List AV->(Hp->Prop)->Prop
 |[],K=>K h
 |x::xs,K=>match b with
  |false=>K h
  |true=>flatK h x fun h1=>Mb true h1 xs K
def aAB(P:Program)(own lend:FuncId->Bool)(n:Nat)(h:Hp)(F:AV)(args:List AV)(K:AV->Nat->Hp->Prop):Prop:=
 match F with
 |.fn (.func f) first cap=>(match own f with
  |false=>Mb (lend f) h ((first++(args++cap)).flatMap AV.cells) fun h1=>Wl h1 (first++(args++cap)) fun all=>(match(agL all).all AV.noref with
   |true=>Dt (agL all) fun all=>ACall P f all [] fun r hs=>(match lend f&&aVz r hs with
    |true=>aCN n h r hs K
    |false=>match hs with
     |[]=>oV (dels h1 (oY (first++(args++cap)))) fun h'=>K r n h'
     |_::_=>False)
   |false=>False)
  |true=>Dt (first++(args++cap)) fun all0=>aQU h all0 fun ids=>(match sO h ids with
   |some objs=>Dt (R9 (inN ids) all0) fun all=>rH (inN ids) objs fun objs'=>ACall P f all objs' fun r hs=>(match Nat.ble objs.length hs.length with
    |true=>rH (backTo ids n) hs fun hs'=>oV (pN ids hs' n (dels h ids)) fun h'=>aBE (aJF (backTo ids n) r) fun r'=>nB (n+(hs.length-objs.length)) fun n'=>K r' n' h'
    |false=>False)
   |none=>False))
 |_=>False
section
variable {P:Program} {E:Nat->Prop} {w:World} {ι:Inj} {n:Nat} {h:Hp}
theorem Sa{ρ:Nat->Option Nat}{ι':Inj}(hρ:∀id j p,ρ id=some j->ι id=some p->ι' j=some p){x:AV}{v:Value}(hx:Rel E w ι x v):Rel E w ι' (aRc ρ x) v:=by
 cases x with
 |agg cs=>
  cases hx with
  |agg _ c hs h=>
   have:=Ek hρ (⟨hs,h⟩:RL E w ι cs c);exact .agg _ _ this.1 this.2
 |fn f a b=>
  cases hx with
  |fn _ _ _ F C hF hC h1 h2=>
   have t1:=Ek hρ (⟨hF,h1⟩:RL E w ι a F);have t2:=Ek hρ (⟨hC,h2⟩:RL E w ι b C);exact .fn f _ _ _ _ t1.1 t2.1 t1.2 t2.2
 |_=>exact Kc hρ hx
theorem F1{ρ:Nat->Option Nat}{ι':Inj}(hρ:∀id j p,ρ id=some j->ι id=some p->ι' j=some p):∀{xs:List AV} {c:Array Value},RL E w ι xs c->RL E w ι' (R9 ρ xs) c
 |[],c,hx=>by cases hx.nil;exact oZ
 |x::xs,c,hx=>by
  obtain⟨v,vs,rfl,h1,h2⟩:=hx.head;exact RL.cons (Sa hρ h1) (F1 hρ h2)
theorem Kf{ρ:Nat->Option Nat}{ι':Inj}(hρ:∀id j p,ρ id=some j->ι id=some p->ι' j=some p){x:AV}{v:Value}(hx:Rel E w ι x v):Rel E w ι' (aJF ρ x) v:=by
 cases x with
 |tup cs=>
  cases hx with
  |tup _ c hs h=>
   have:=F1 hρ (⟨hs,h⟩:RL E w ι cs c);exact .tup _ _ this.1 this.2
 |_=>exact Sa hρ hx
theorem elemN_spec:∀{l:List Nat} {i:Nat},Gp i l=true↔i∈l
 |[],i=>by simp[Gp]
 |j::l,i=>by
  simp only[Gp];cases hb:Nat.beq j i with
  |true=>have:=aY hb;subst this;simp
  |false=>
   have hne:i≠j:=fun e=>by subst e;rw[qQ]at hb;cases hb
   simp only[elemN_spec,aZ,hne,false_or]
theorem oB:∀{l:List Nat} {os:List Obj},sO h l=some os->l.length=os.length/\∀(j:Nat) id o,l[j]? =some id->os[j]? =some o->get h id=some o
 |[],os,hq=>by simp only[sO,bN]at hq;subst hq;exact⟨rfl,fun j id o h=>by simp at h⟩
 |i::l,os,hq=>by
  simp only[sO]at hq;split at hq
  ·rename_i o os' ho hos;cases hq;obtain⟨h1,h2⟩:=oB hos;refine⟨by simp[h1],fun j id o' hj hj'=>?_⟩;cases j with
   |zero=>simp at hj hj';subst hj;subst hj';exact ho
   |succ j=>exact h2 j id o' (by simpa using hj) (by simpa using hj')
  ·cases hq
theorem oU:∀(r l:List Nat),l.Nodup->(addN l r).Nodup
 |[],l,h=>h
 |i::r,l,h=>by
  simp only[addN];cases hb:Gp i l with
  |true=>exact oU r l h
  |false=>
   refine oU r _ ?_;rw[eQ];refine⟨h,by simp,fun a ha b hb'=>?_⟩;simp at hb';subst hb'
   rintro rfl
   rw[elemN_spec.2 ha]at hb;cases hb
theorem Dh(h:Hp):∀(k:Nat) (l:List Nat),l.Nodup->(E9 h k l).Nodup
 |0,l,hl=>hl
 |k+1,l,hl=>by
  simp only[E9];split
  ·exact hl
  ·exact Dh h k _ (oU _ _ hl)
theorem O3(h:Hp)(all:List AV):(J5 h all).Nodup:=Dh h 4 _ (oU _ _ zx)
theorem Rel.flat1{E2:Nat->Prop}{w2:World}{ι2:Inj}{x:AV}{v:Value}(hx:Rel E w ι x v)(hn:x.flat1=true):Rel E2 w2 ι2 x v:=by
 cases hx with
 |v=>exact .v _
 |sb b=>exact .sb b
 |nils=>exact .nils
 |lnil a c=>exact .lnil a c
 |lst xs b off n cap sz hE hb hnn hcap hz g hg h=>
  cases xs with
  |nil=>simp only[aI]at hnn;subst hnn;exact .lnil _ _
  |cons _ _=>simp[AV.flat1]at hn
 |junk=>exact .junk _
 |_=>simp[AV.flat1]at hn
theorem Rel.flatA{E2:Nat->Prop}{w2:World}{ι2:Inj}{x:AV}{v:Value}(hx:Rel E w ι x v)(hn:x.flatA=true):Rel E2 w2 ι2 x v:=by
 cases x with
 |agg cs=>
  cases hx with
  |agg _ c hs h=>
   simp only[AV.flatA,bT]at hn;exact .agg _ _ hs (fun i x y h1 h2=>(h i x y h1 h2).flat1 (hn x (aG h1)))
 |_=>exact Rel.flat1 hx hn
theorem Rel.flat{E2:Nat->Prop}{w2:World}{ι2:Inj}{x:AV}{v:Value}(hx:Rel E w ι x v)(hn:x.flat=true):Rel E2 w2 ι2 x v:=by
 cases x with
 |tup cs=>
  cases hx with
  |tup _ c hs h=>
   simp only[AV.flat,bT]at hn;exact .tup _ _ hs (fun i x y h1 h2=>(h i x y h1 h2).flatA (hn x (aG h1)))
 |_=>exact Rel.flatA hx hn
theorem Sc{n:Nat}{h:Hp}(r:Rep ι E w n h){id:Nat}{cs:List AV}(hg:get h id=some (.box cs))(hid:id∉mX cs){K:List AV->Prop}(hq:Q3 h cs K):
  ∃ds E',K ds/\Rep ι E' w n ((id,.box ds)::dels (del h id) (mX cs))/\Ext ι h E w ι ((id,.box ds)::dels (del h id) (mX cs)) E' w:=by
 obtain⟨b,base,h1,h2,h3,h4⟩:=r.obj id _ hg;have hrl:RL E w ι cs ((List.range cs.length).map fun i=>(w.cell? ⟨b,base+i,none⟩).getD default).toArray:=by
  refine⟨by simp,fun i x y hx hy=>?_⟩;have hi:=(aP.1 hx).1;obtain⟨u,hu,_,hr⟩:=h4 i x hx;simp[fC hi,hu]at hy;subst hy;exact hr
 obtain⟨ds,g1,g2,g3⟩:=sJ r (S:=fun x=>x∈mX cs) hrl (fun _ h=>h) hq;obtain⟨r1,x1⟩:=release r (fun x=>x∈mX cs) (Sub.dels (mX cs)) (fun i o hi hm=>by rw[pK,aH hm]at hi;cases hi);have hget:∀i,get ((id,.box ds)::dels (del h id) (mX cs)) i=if id=i then some (.box ds)else get (dels h (mX cs)) i:=by
  intro i;rw[jA];by_cases hi:id=i
  ·rw[aH hi,aH hi]
  ·rw[aF hi,aF hi,pK,pK,kV,aF hi]
 have hidr:get (dels h (mX cs)) id=some (.box cs):=by rw[pK,aF hid];exact hg
 have hsome:∀i o,get ((id,.box ds)::dels (del h id) (mX cs)) i=some o->∃o',get (dels h (mX cs)) i=some o':=by
  intro i o hi;rw[hget]at hi;split at hi
  ·rename_i e;subst e;exact⟨_,hidr⟩
  ·exact⟨o,hi⟩
 have hlen:ds.length=cs.length:=by have:=g1.1;simpa using this
 refine⟨ds,_,g2,⟨r1.fresh,fun i o hi=>?_,fun i i' o o' b1 base1 base2 k1 k2=>?_,r1.bound,r1.glob⟩,x1.trans ⟨rfl,rfl,rfl,aO _,fun _ _ h=>h,fun _ _ _=>⟨rfl,Iff.rfl⟩,fun b1 _ hO=>?_,fun _ h=>h,fun _ _=>rfl,aO _⟩⟩
 ·rw[hget]at hi;split at hi
  ·rename_i e;subst e;cases hi;refine⟨b,base,h1,r1.own_E ⟨id,_,base,hidr,h1⟩,h3,fun i c hc=>?_⟩;have hil:i<cs.length:=by rw[<-hlen];exact(aP.1 hc).1
   obtain⟨u,hu,hf,_⟩:=h4 i _ (aE hil);exact⟨u,hu,hf,g1.2 i c u hc (by simp[fC hil,hu])⟩
  ·exact r1.obj i o hi
 ·obtain⟨p,hp⟩:=hsome i o k1;obtain⟨q,hq'⟩:=hsome i' o' k2;exact r1.sep i i' p q b1 base1 base2 hp hq'
 ·obtain⟨i,o,base1,k1,k2⟩:=hO;obtain⟨p,hp⟩:=hsome i o k1;exact⟨i,p,base1,hp,k2⟩
theorem yO{sz:Nat}:∀(k:Nat) (cs:List AV) {i:Nat} {x:AV},(rM sz k cs)[i]? =some x->i<k/\x=.agg ((cs.drop (i*sz)).take sz)
 |0,cs,i,x,h=>by simp[rM]at h
 |k+1,cs,0,x,h=>by
  simp only[rM,eI,bN]at h;exact⟨by omega,by rw[<-h];simp⟩
 |k+1,cs,i+1,x,h=>by
  simp only[rM,List.getElem?_cons_succ]at h;obtain⟨h1,h2⟩:=yO k _ h;refine⟨by omega,?_⟩;rw[h2,List.drop_drop,cE,fQ,Nat.add_comm]
theorem aJG{n:Nat}{h:Hp}{id sz len:Nat}{ds:List AV}(r:Rep ι E w n ((id,.box ds)::h))(hl:ds.length=len*sz)(hp:ds.all AV.pure1=true):
  Rep ι E w n ((id,.arr sz (rM sz len ds))::h)/\Ext ι ((id,.box ds)::h) E w ι ((id,.arr sz (rM sz len ds))::h) E w:=by
 have hsome:∀{i o},get ((id,Vm.Obj.arr sz (rM sz len ds))::h) i=some o->∃o',get ((id,Vm.Obj.box ds)::h) i=some o':=by
  intro i o hi;rw[jA]at hi⊢;split at hi
  ·rename_i e;exact⟨_,aH e⟩
  ·rename_i e;exact⟨o,by rw[aF e];exact hi⟩
 obtain⟨b,base,h1,h2,h3,h4⟩:=r.obj id (.box ds) (by rw[jA,aH rfl]);refine⟨⟨r.fresh,fun i o hi=>?_,fun i i' o o' b base base' k1 k2 k3 k4=>?_,r.bound,r.glob⟩,⟨rfl,rfl,rfl,aO _,fun _ _ h=>h,fun _ _ _=>⟨rfl,Iff.rfl⟩,fun b _ ⟨i,o,base,g1,g2⟩=>?_,fun _ h=>h,fun _ _=>rfl,aO _⟩⟩
 ·rw[jA]at hi;split at hi
  ·rename_i e;subst e;cases hi;refine .inr ⟨b,base,h1,h2,h3,fun i x hx=>?_,fun i x j c hx hc=>?_⟩
   ·obtain⟨q1,q2⟩:=yO len ds hx;subst q2;have:(i+1)*sz<=len*sz:=bZ _ q1;rw[cE]at this;simp only[AV.cells,aV,cH];omega
   ·obtain⟨q1,q2⟩:=yO len ds hx;subst q2;simp only[AV.cells]at hc;rw[cZ]at hc;split at hc;case isFalse=>cases hc
    rw[cJ]at hc;obtain⟨u,u1,u2,u3⟩:=h4 _ c hc;rw[bT]at hp;exact⟨u,by rw[cD];exact u1,by rw[cD];exact u2,u3.pure1 (hp c (aG hc))⟩
  ·rename_i e;exact r.obj i o (by rw[jA,aF e];exact hi)
 ·obtain⟨_,q1⟩:=hsome k1;obtain⟨_,q2⟩:=hsome k2;exact r.sep _ _ _ _ _ _ _ q1 q2 k3 k4
 ·obtain⟨o',q⟩:=hsome g1;exact⟨i,o',base,q,g2⟩
theorem wA{n:Nat}{h:Hp}(r:Rep ι E w n h){X:AV}{K:Hp->Prop}(hq:flatK h X K):∃h1 E1,K h1/\Rep ι E1 w n h1/\Ext ι h E w ι h1 E1 w:=by
 unfold flatK at hq;simp only[wB,mZ]at hq;split at hq;case h_2=>exact⟨h,E,hq,r,Ext.refl⟩
 rename_i id sz off len;split at hq;case h_2=>exact⟨h,E,hq,r,Ext.refl⟩
 rename_i cs hg;split at hq;case h_2=>exact hq.elim
 rename_i he;obtain⟨ds,E',k1,k2,k3⟩:=Sc r hg (fun hm=>by rw[elemN_spec.2 hm]at he;cases he) hq;split at k1;case h_2=>exact k1.elim
 rename_i hb;simp only[aJ]at hb;obtain⟨r2,x2⟩:=aJG (sz:=sz) (len:=len) k2 (aY hb.1) hb.2;exact⟨_,E',k1,r2,k3.trans x2⟩
theorem Gx:∀(b:Bool) (xs:List AV) {E:Nat->Prop} {h:Hp} {K:Hp->Prop},Rep ι E w n h->Mb b h xs K->∃h1 E1,K h1/\Rep ι E1 w n h1/\Ext ι h E w ι h1 E1 w
 |_,[],E,h,K,r,hq=>⟨h,E,by simpa[Mb]using hq,r,Ext.refl⟩
 |false,x::xs,E,h,K,r,hq=>⟨h,E,by simpa[Mb]using hq,r,Ext.refl⟩
 |true,x::xs,E,h,K,r,hq=>by
  simp only[Mb]at hq;obtain⟨h1,E1,k1,r1,x1⟩:=wA r hq;obtain⟨h2,E2,k2,r2,x2⟩:=Gx true xs r1 k1;exact⟨h2,E2,k2,r2,x1.trans x2⟩
theorem aVV{E1:Nat->Prop}{h1:Hp}(r:Rep ι E w n h)(r1:Rep ι E1 w n h1)(x:Ext ι h E w ι h1 E1 w):∀b,E1 b->E b:=fun b hb=>by
 by_cases ho:Own ι h b
 ·exact r.own_E ho
 ·exact(x.old b (r1.bound b hb) ho).2.1 hb
theorem Y5(r:Rep ι E w n h){E2:Nat->Prop}(hE2:∀b,E2 b->E b){E':Nat->Prop}{w':World}{ι':Inj}{h':Hp}(x:Ext jR (jF 0 []) E2 w ι' h' E' w')(hb':∀b,E' b->b<w'.heap.size):
  Rep ι (fun b=>E' b\/(b<w.heap.size/\E b)) w' n h/\Ext ι h E w ι h (fun b=>E' b\/(b<w.heap.size/\E b)) w':=by
 have hno:∀b,¬Own jR (jF 0 []) b:=fun b ⟨id,o,base,hg,_⟩=>by simp[jF,get]at hg
 have hiff:∀b,b<w.heap.size->((E' b\/(b<w.heap.size/\E b))↔E b):=fun b hb=>by
  constructor
  ·rintro(h1|h1)
   ·exact hE2 b ((x.old b hb (hno b)).2.1 h1)
   ·exact h1.2
  ·intro h1;exact .inr ⟨hb,h1⟩
 have hk:Keeps E w (fun b=>E' b\/(b<w.heap.size/\E b)) w':=⟨x.size,fun b hb hE=>⟨(x.old b hb (hno b)).1,fun h1=>hE ((hiff b hb).1 h1)⟩,x.some,fun a ha=>x.mark a (lt_of_cell ha)⟩
 refine⟨⟨r.fresh,fun id o hg=>(r.obj id o hg).keep hk (fun _ _ h=>h) (fun b base hb=>(hiff b (own_ne r hg hb)).2 (r.own_E ⟨id,o,base,hg,hb⟩)) (fun b base hb=>(x.old b (own_ne r hg hb) (hno b)).1),r.sep,fun b hb=>?_,r.glob.keep hk⟩,
  ⟨x.os,x.tape,x.output,x.size,fun _ _ h=>h,fun b hb _=>⟨(x.old b hb (hno b)).1,hiff b hb⟩,fun _ _ h=>h,x.some,x.mark,x.drawn⟩⟩
 rcases hb with hb|hb
 ·exact hb' b hb
 ·exact cN hb.1 x.size
def aAe(P:Program)(E:Nat->Prop)(w:World)(ι:Inj)(h:Hp)(own:FuncId->Bool)(g:AV)(T:List Nat)(s:Sem Next)(K:AV->Nat->Hp->Prop):Prop:=
 ∃f first cap vals,g=.fn (.func f) first cap/\s.run P w=.ok (.enter f vals) w/\Calls P f vals w fun e w'=>(∃v x n' h' ι' E',e=.returned v/\K x n' h'/\Rel E' w' ι' x v/\Rep ι' E' w' n' h'/\Ext ι h E w ι' h' E' w')/\(own f=false->Same w w')/\
  (∀b,b<w.heap.size->(∀id,id∈T->∀base,ι id≠some (some (b,base)))->w'.heap[b]? =w.heap[b]?)
def Pq(h:Hp)(F:AV)(args:List AV):List Nat:=
 match F with
 |.fn _ first cap=>J5 h (first++(args++cap))
 |_=>[]
theorem RL.append{xs ys:List AV}{a b:Array Value}(h1:RL E w ι xs a)(h2:RL E w ι ys b):RL E w ι (xs++ys) (a++b):=by
 refine⟨by simp[h1.1,h2.1],fun i x y hx hy=>?_⟩;by_cases hi:i<xs.length
 ·rw[bJ hi]at hx;rw[eM (by rw[<-h1.1];exact hi)]at hy;exact h1.2 i x y hx hy
 ·rw[bF zo]at hx;rw[Array.getElem?_append_right (by rw[<-h1.1];omega),<-h1.1]at hy;exact h2.2 _ x y hx hy
theorem Ug(r:Rep ι E w n h){E2:Nat->Prop}(hE2:∀b,E2 b->E b){e:Ending}{v:Value}(he:e=.returned v){rv:AV}{hs':List Obj}{ι':Inj}{E':Nat->Prop}{w':World}
  (r':Rep ι' E' w' hs'.length (jF 0 hs'))(hr:Rel E' w' ι' rv v)(x':Ext jR (jF 0 []) E2 w ι' (jF 0 hs') E' w'){K:AV->Nat->Hp->Prop}(hk:aCN n h rv hs' K):
  ∃v x n' h' ι' E',e=.returned v/\K x n' h'/\Rel E' w' ι' x v/\Rep ι' E' w' n' h'/\Ext ι h E w ι' h' E' w':=by
 obtain⟨rb,xb⟩:=Y5 r hE2 x' r'.bound
 -- one object that is new
 have one:∀(o:Obj),gone o=false->hs'=[o]->(∀(E2:Nat->Prop) (ι2:Inj),(∀b base,ι' 0=some (some (b,base))->E2 b)->ι2 n=ι' 0->ORel E2 w' ι2 n o)->
   Rep (ι.set n (match ι' 0 with|some p=>p|none=>none)) (fun b=>E' b\/(b<w.heap.size/\E b)) w' (n+1) ((n,o)::h)/\Ext ι h E w (ι.set n (match ι' 0 with|some p=>p|none=>none)) ((n,o)::h) (fun b=>E' b\/(b<w.heap.size/\E b)) w'/\
    (ι.set n (match ι' 0 with|some p=>p|none=>none)) n=ι' 0:=by
  intro o hgn ho hor;subst ho;have hg0:get (jF 0 [o]) 0=some o:=(oP [o] 0 0 o).2 ⟨aO _,rfl,hgn⟩;have h0:∃p,ι' 0=some p:=by
   have:=r'.obj 0 o hg0;cases o with
   |box cs=>obtain⟨b,base,h1,_⟩:=this;exact⟨_,h1⟩
   |spc s=>obtain⟨b,base,h1,_⟩:=this;exact⟨_,h1⟩
   |arr sz xs=>rcases this with⟨h1,_⟩|⟨b,base,h1,_⟩<;>exact⟨_,h1⟩
  obtain⟨p,hp⟩:=h0;have hset:(ι.set n p) n=ι' 0:=by rw[Inj.set_same,hp]
  have hx:=Inj.set_ext r p;have hnew:∀b base,ι' 0=some (some (b,base))->w.heap.size<=b/\E' b:=fun b base hb=>by
   have hO:Own ι' (jF 0 [o]) b:=⟨0,o,base,hg0,hb⟩
   refine⟨?_,r'.own_E hO⟩;rcases aD b w.heap.size with hlt|hge
   ·obtain⟨id,o',base',hg,_⟩:=x'.own b hlt hO;simp[jF,get]at hg
   ·exact hge
  have hne:∀{id o},get h id=some o->id≠n:=fun hg e=>by subst e;rw[r.get_n]at hg;cases hg
  have hsame:∀{id},id≠n->(ι.set n p) id=ι id:=fun hi=>by simp[Inj.set,hi]
  simp only[hp];refine⟨⟨fun id hid=>?_,fun id ob hg=>?_,fun id id' ob ob' b base base' h1 h2 h3 h4=>?_,rb.bound,rb.glob⟩,⟨xb.os,xb.tape,xb.output,xb.size,hx,fun b hb hn=>xb.old b hb hn,fun b hb hO=>?_,xb.some,xb.mark,xb.drawn⟩,hset.trans hp⟩
  ·rw[hsame zo];exact r.fresh id zo
  ·rw[jA]at hg;split at hg
   ·rename_i e;subst e;cases hg;exact hor _ _ (fun b base hb=>.inl (hnew b base hb).2) hset
   ·rename_i e;have hk0:Keeps (fun b=>E' b\/(b<w.heap.size/\E b)) w' (fun b=>E' b\/(b<w.heap.size/\E b)) w':=⟨aO _,fun b _ hE=>⟨rfl,hE⟩,fun _ h=>h,fun _ _=>rfl⟩
    exact(rb.obj id ob hg).keep hk0 hx (fun b base hb=>rb.own_E ⟨id,ob,base,hg,hb⟩) (fun _ _ _=>rfl)
  ·rw[jA]at h1 h2;split at h1<;>split at h2
   ·omega
   ·rename_i e1 e2;subst e1;rw[hset]at h3;rw[hsame (hne h2)]at h4;have:=(hnew _ _ h3).1;have:=own_ne r h2 h4;omega
   ·rename_i e1 e2;subst e2;rw[hset]at h4;rw[hsame (hne h1)]at h3;have:=(hnew _ _ h4).1;have:=own_ne r h1 h3;omega
   ·rw[hsame (hne h1)]at h3;rw[hsame (hne h2)]at h4;exact r.sep _ _ _ _ _ _ _ h1 h2 h3 h4
  ·obtain⟨id,ob,base,hg,hb'⟩:=hO;rw[jA]at hg;split at hg
   ·rename_i e;subst e;rw[hset]at hb';have:=(hnew _ _ hb').1;omega
   ·rw[hsame (hne hg)]at hb';exact⟨id,ob,base,hg,hb'⟩
 unfold aCN at hk;split at hk
 ·split at hk;case h_2=>exact hk.elim
  rename_i hf;exact⟨v,rv,n,h,ι,_,he,hk,hr.flat hf,rb,xb⟩
 ·rename_i sz xs;have two:(∀x,x∈xs->x.cells.all AV.flat1=true)->_:=fun hfl=>one (.arr sz xs) rfl rfl (fun E2 ι2 hE2 hι2=>by
   rcases r'.obj 0 _ (rfl:get (jF 0 [.arr sz xs]) 0=_)with⟨h2,h3⟩|⟨b,base,h2,h3,h4,h5,h6⟩
   ·exact .inl ⟨by rw[hι2];exact h2,h3⟩
   ·refine .inr ⟨b,base,by rw[hι2];exact h2,hE2 b base h2,h4,h5,fun i x j c hx hc=>?_⟩;obtain⟨u,a1,a2,a3⟩:=h6 i x j c hx hc;have:=hfl x (aG hx);rw[bT]at this;exact⟨u,a1,a2,a3.flat1 (this c (aG hc))⟩)
  split at hk;case h_3=>exact hk.elim
  ·rename_i sz' off len;obtain⟨hfl,hk⟩:=hk.elim;obtain⟨q1,q2,q3⟩:=two hfl;refine⟨v,_,_,_,_,_,he,hk,?_,q1,q2⟩;cases hr with
   |osz _ _ _ a=>exact .osz _ _ _ _
   |os _ _ _ _ b base cap hι hc hcell=>exact .os n sz' off len b base cap (by rw[q3];exact hι) hc hcell
  ·rename_i sz' off len y;split at hk;case h_2=>exact hk.elim
   rename_i hy;obtain⟨hfl,hk⟩:=hk.elim;obtain⟨q1,q2,q3⟩:=two hfl;refine⟨v,_,_,_,_,_,he,hk,?_,q1,q2⟩;cases hr with
   |tup _ c hs h=>
    refine .tup _ c hs fun i x u hx hu=>?_;rcases i with _|_|i
    ·have hr:=h 0 _ _ rfl hu;cases hx;cases hr with
     |osz _ _ _ a=>exact .osz _ _ _ _
     |os _ _ _ _ b base cap hι hc hcell=>exact .os n sz' off len b base cap (by rw[q3];exact hι) hc hcell
    ·have hr:=h 1 _ _ rfl hu;cases hx;exact hr.flatA hy
    ·cases hx
 ·split at hk;case h_2=>exact hk.elim
  rename_i c0 cs _ off;split at hk;case h_2=>exact hk.elim
  rename_i hfl;obtain⟨q1,q2,q3⟩:=one (.box (c0::cs)) rfl rfl (fun E2 ι2 hE2 hι2=>by
   obtain⟨b,base,h2,h3,h4,h5⟩:=r'.obj 0 _ (rfl:get (jF 0 [.box (c0::cs)]) 0=_);refine⟨b,base,by rw[hι2];exact h2,hE2 b base h2,h4,fun i c hc=>?_⟩;obtain⟨u,a1,a2,a3⟩:=h5 i c hc;rw[bT]at hfl;exact⟨u,a1,a2,a3.flat1 (hfl c (aG hc))⟩)
  refine⟨v,_,_,_,_,_,he,hk,?_,q1,q2⟩;cases hr with
  |op _ _ b base hι=>exact .op n off b base (by rw[q3];exact hι)
 ·exact hk.elim
theorem Qe(r:Rep ι E w n h){own lend:FuncId->Bool}{ev:Operand->AV}{ρ:Operand->Value}(hev:∀x,Rel E w ι (ev x) (ρ x)){o:Oper}{c:Call}{fo:Operand}(ho:o.op=.call c)(hc:c.callee=.value fo){K:AV->Nat->Hp->Prop}
  (hq:aAB P own lend n h (ev fo) (c.args.toList.map ev) K):aAe P E w ι h own (ev fo) (Pq h (ev fo) (c.args.toList.map ev)) (execOp ρ o) K:=by
 unfold aAB at hq;simp only[mZ,nA,Oi,mK,aJt,wB,oQ]at hq;have hF:=hev fo;split at hq;case h_2=>exact hq.elim
 rename_i f first cap he
 rw[he]at hF;generalize hfv:ρ fo=fv at hF;cases hF with
 |fn _ _ _ F C h1 h2 h3 h4=>
  have hargs:=Pe hev c.args;have hall:RL E w ι (first++(c.args.toList.map ev++cap)) (F++(c.args.map ρ++C)):=RL.append ⟨h1,h3⟩ (RL.append hargs ⟨h2,h4⟩);have hrun:K0 P f=true->(execOp ρ o).run P w=.ok (.enter f (F++(c.args.map ρ++C))) w:=by
   intro hok;unfold K0 at hok;split at hok
   ·rename_i fn hfn;simp only[aJ,dX]at hok;obtain⟨_,hb,hnm⟩:=hok;have hb':fn.body.isNone=false:=by cases hfb:fn.body<;>simp_all
    simp only[execOp,ho,resolve,hc,hfv,Deferred.ofValue,Sem.run_bind,Sem.run_pure,Result.andThen_ok,invoke,callFunc,run_program,hfn,hnm,hb',cK,if_false,gO]
   ·cases hok
  split at hq
  ·obtain⟨hl,El,hq,rl,xl⟩:=Gx _ _ r hq;have hkl:Keeps E w El w:=xl.keeps r;have hall:RL El w ι (first++(c.args.toList.map ev++cap)) (F++(c.args.map ρ++C)):=⟨hall.1,fun i x y hx hy=>(hall.2 i x y hx hy).keep hkl (fun _ _ h=>h)⟩
   obtain⟨all,a1,a2,a3⟩:=wE rl (S:=fun id=>id∈oY (first++(c.args.toList.map ev++cap))) hall (fun _ h=>h) hq;split at a2;case h_2=>exact a2.elim
   rename_i hnr;obtain⟨hok,hcall⟩:=a2.elim;obtain⟨r1,x1⟩:=release rl (fun id=>id∈oY (first++(c.args.toList.map ev++cap))) (Sub.dels (oY (first++(c.args.toList.map ev++cap)))) (fun id o hg hm=>by rw[pK,aH hm]at hg;cases hg);have r0:Rep jR _ w ([]:List Obj).length (jF 0 []):=⟨fun _ _=>rfl,fun id o hg=>by simp[jF,get]at hg,fun id id' o o' b base base' hg=>by simp[jF,get]at hg,r1.bound,r1.glob⟩
   refine⟨f,first,cap,_,he,hrun hok,(hcall jR _ w _ r0 (a1.agL.noref hnr)).mono ?_⟩
   rintro e w' ⟨v,rv,hs',ι',E',rfl,hk,r',hr,x'⟩
   have hno:∀b,¬Own jR (jF 0 []) b:=fun b ⟨id,o,base,hg,_⟩=>by simp[jF,get]at hg
   refine⟨?_,fun _ b hb=>(x'.old b hb (hno b)).1,fun b hb _=>(x'.old b hb (hno b)).1⟩;split at hk
   ·exact Ug r (fun b hb=>aVV r rl xl b hb.1) rfl r' hr x' hk
   cases hs' with
   |cons _ _=>exact hk.elim
   |nil=>
    have hι':ι'=jR:=funext fun id=>r'.fresh id (aK _);subst hι';have hk2:Keeps _ w E' w':=x'.keeps r0;have rr:Rep ι E' w' n (dels hl (oY (first++(c.args.toList.map ev++cap)))):=by
     refine⟨r1.fresh,fun id o hg=>(r1.obj id o hg).keep hk2 (fun _ _ h=>h) (fun b base hb=>?_) (fun b base hb=>?_),r1.sep,r'.bound,r'.glob⟩
     ·exact(x'.old b (own_ne r1 hg hb) (hno b)).2.2 (r1.own_E ⟨id,o,base,hg,hb⟩)
     ·exact(x'.old b (own_ne r1 hg hb) (hno b)).1
    refine⟨v,rv,n,_,ι,E',rfl,hk,hr.up,rr,(xl.trans x1).trans ⟨x'.os,x'.tape,x'.output,x'.size,fun _ _ h=>h,fun b hb _=>x'.old b hb (hno b),fun _ _ h=>h,x'.some,x'.mark,x'.drawn⟩⟩
  ·rename_i hown;split at hq;case h_2=>exact hq.elim
   rename_i objs hobjs;obtain⟨hok,hcall⟩:=hq.elim;obtain⟨hl,hget⟩:=oB hobjs;have hnd:=O3 h (first++(c.args.toList.map ev++cap));have hT:Pq h (ev fo) (c.args.toList.map ev)=J5 h (first++(c.args.toList.map ev++cap)):=by rw[he];rfl
   rw[hT];clear hT;generalize J5 h (first++(c.args.toList.map ev++cap))=ids at*;have r0:=Ij r hnd hl fun j id o h1 h2 _=>hget j id o h1 h2;have hren:RL E w (jQ ι ids) (R9 (inN ids) (first++(c.args.toList.map ev++cap))) (F++(c.args.map ρ++C)):=by
    refine F1 (fun id j p hj hp=>?_) hall;obtain⟨_,h5⟩:=uU hj;simp only[eV]at h5;simp[jQ,h5,hp]
   refine⟨f,first,cap,_,he,hrun hok,(hcall _ E w _ r0 hren).mono ?_⟩
   rintro e w' ⟨v,rv,hs',ι',E',rfl,hk,r',hr,x'⟩
   refine⟨?_,(fun hf=>by rw[hown]at hf;cases hf),fun b hb hT=>(x'.old b hb fun hO=>?_).1⟩;case refine_2=>
    obtain⟨j,o,base,hg,hj⟩:=hO;simp only[jQ]at hj;split at hj
    ·rename_i id hid;exact hT id (aG hid) base hj
    ·cases hj
   split at hk;case h_2=>exact hk.elim
   rename_i hble;have hble:=cB hble;obtain⟨rr,xx,hback⟩:=Y8 r hnd hl hget zo r' x';rw[<-hl]at hk;exact⟨v,_,_,_,_,E',rfl,hk,Kf hback hr,rr,xx⟩
end
end Go.Vm
