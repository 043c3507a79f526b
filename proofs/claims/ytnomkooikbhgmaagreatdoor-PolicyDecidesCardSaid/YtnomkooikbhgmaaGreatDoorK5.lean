/- Lemmas. -/
import Derived.Test.YtnomkooikbhgmaaGreatDoorK4
set_option linter.unusedVariables false
set_option linter.unusedSimpArgs false
set_option maxRecDepth 100000
set_option maxHeartbeats 4000000
namespace Go.Vm
/-! ### Names in values -/
def W5:AV->List Nat
 |.op id _=>[id]
 |.ep id _ _ _=>[id]
 |.os id _ _ _=>[id]
 |.mp id=>[id]
 |_=>[]
def C5:List AV->List Nat
 |[]=>[]
 |x::xs=>W5 x++C5 xs
def Eh:AV->List Nat
 |.fn _ a b=>C5 a++C5 b
 |x=>W5 x
def mY:List AV->List Nat
 |[]=>[]
 |x::xs=>Eh x++mY xs
def tF:AV->List Nat
 |.agg cs=>mY cs
 |.fn _ a b=>mY a++mY b
 |x=>Eh x
def oY:List AV->List Nat
 |[]=>[]
 |x::xs=>tF x++oY xs
def Gj(i:Nat):List Nat->Bool
 |[]=>false
 |j::l=>match Nat.beq j i with
  |true=>true
  |false=>Gj i l
def dels(h:Hp):List Nat->Hp
 |[]=>h
 |i::l=>dels (del h i) l
/-! ### Freezing: own arrays and boxes in a value become values that are never written -/
def Ja(h:Hp)(x:AV)(K:AV->Prop):Prop:=
 match x with
 |.os id sz off len=>(match get h id with
  |some (.arr sz' xs)=>(match Nat.beq sz sz' with
   |true=>Sl xs off len fun ys=>K (.lst ys)
   |false=>False)
  |_=>False)
 |.op id off=>(match get h id with
  |some (.box cs)=>(match cs.all AV.pure1 with
   |true=>rG (cs.drop off) fun ds=>K (.fp ds)
   |false=>False)
  |_=>False)
 |.ep _ _ _ _=>False
 |.mp _=>False
 |.fn f a b=>(match C5 a++C5 b with
  |[]=>K (.fn f a b)
  |_=>False)
 |x=>K x
def Q3(h:Hp):List AV->(List AV->Prop)->Prop
 |[],K=>K []
 |x::xs,K=>Ja h x fun y=>Q3 h xs fun ys=>K (y::ys)
def aBn(h:Hp)(x:AV)(K:AV->Prop):Prop:=
 match x with
 |.agg cs=>Q3 h cs fun cs'=>K (.agg cs')
 |.fn f a b=>Q3 h a fun a'=>Q3 h b fun b'=>K (.fn f a' b')
 |x=>Ja h x K
def Wd(h:Hp):List AV->(List AV->Prop)->Prop
 |[],K=>K []
 |x::xs,K=>aBn h x fun y=>Wd h xs fun ys=>K (y::ys)
def AV.noref1:AV->Bool
 |.v _=>true
 |.sb _=>true
 |.nils=>true
 |.lst _=>true
 |.fp _=>true
 |.junk=>true
 |.fn _ [] []=>true
 |_=>false
def AV.noref:AV->Bool
 |.agg cs=>cs.all AV.noref1
 |.fn _ a b=>a.all AV.noref1&&b.all AV.noref1
 |x=>x.noref1
def Ws:Obj->Bool
 |.box cs=>cs.all AV.pure1
 |.arr _ _=>true
 |.spc (.it _ _ _ _)=>false
 |.spc _=>true
def wR:Obj->Bool
 |.box []=>true
 |_=>false
def pL:List Nat->List Obj->Nat->Hp->Hp
 |_,[],_,base=>base
 |[],o::os,n,base=>(match wR o with
  |true=>pL [] os (n+1) base
  |false=>(n,o)::pL [] os (n+1) base)
 |i::ids,o::os,n,base=>(match wR o with
  |true=>pL ids os n base
  |false=>(i,o)::pL ids os n base)
def iV:Nat->List Obj->Hp
 |_,[]=>[]
 |k,o::os=>(match wR o with
  |true=>iV (k+1) os
  |false=>(k,o)::iV (k+1) os)
def Kq(P:Program)(f:FuncId):Bool:=
 match P.funcs[f]? with
 |some fn=>Nat.ble fn.ntmps 1000000&&(fn.body.isSome&& !(fn.name== "runtime.NumGoroutine"))
 |none=>false
structure ACall (P:Program) (f:FuncId) (args:List AV) (hs:List Obj) (K:AV->List Obj->Prop):Prop where
 out:Kq P f=true/\∀(ι:Inj) (E:Nat->Prop) (w:World) (vals:Array Value),Rep ι E w hs.length (iV 0 hs)->RL E w ι args vals->
  Calls P f vals w fun e w'=>∃v r hs' ι' E',e=.returned v/\K r hs'/\Rep ι' E' w' hs'.length (iV 0 hs')/\Rel E' w' ι' r v/\Ext ι (iV 0 hs) E w ι' (iV 0 hs') E' w'
section
variable {P:Program} {E:Nat->Prop} {w:World} {ι:Inj} {n:Nat} {h:Hp}
theorem ACall.elim{f:FuncId}{args:List AV}{hs:List Obj}{K:AV->List Obj->Prop}(hc:ACall P f args hs K):Kq P f=true/\∀(ι:Inj) (E:Nat->Prop) (w:World) (vals:Array Value),Rep ι E w hs.length (iV 0 hs)->RL E w ι args vals->
  Calls P f vals w fun e w'=>∃v r hs' ι' E',e=.returned v/\K r hs'/\Rep ι' E' w' hs'.length (iV 0 hs')/\Rel E' w' ι' r v/\Ext ι (iV 0 hs) E w ι' (iV 0 hs') E' w':=by
 exact hc.out
theorem ACall.intro{f:FuncId}{args:List AV}{hs:List Obj}{K:AV->List Obj->Prop}(h1:Kq P f=true)(h2:∀(ι:Inj) (E:Nat->Prop) (w:World) (vals:Array Value),Rep ι E w hs.length (iV 0 hs)->RL E w ι args vals->
  Calls P f vals w fun e w'=>∃v r hs' ι' E',e=.returned v/\K r hs'/\Rep ι' E' w' hs'.length (iV 0 hs')/\Rel E' w' ι' r v/\Ext ι (iV 0 hs) E w ι' (iV 0 hs') E' w'):ACall P f args hs K:=by
 exact⟨h1,h2⟩
theorem ACall.mono{f:FuncId}{args:List AV}{hs:List Obj}{K K':AV->List Obj->Prop}(hc:ACall P f args hs K)(hk:∀r hs',K r hs'->K' r hs'):ACall P f args hs K':=by
 obtain⟨h1,h2⟩:=hc.elim;refine .intro h1 (fun ι E w vals r hr=>(h2 ι E w vals r hr).mono ?_)
 rintro e w' ⟨v,r,hs',ι',E',a,b,c⟩
 exact⟨v,r,hs',ι',E',a,hk _ _ b,c⟩
theorem pK(h:Hp)(l:List Nat)(j:Nat):get (dels h l) j=if j∈l then none else get h j:=by
 induction l generalizing h with
 |nil=>simp[dels]
 |cons i l ih=>
  simp only[dels,ih,kI,aV];by_cases h1:j∈l
  ·simp[h1]
  ·by_cases h2:i=j
   ·subst h2;simp[h1]
   ·simp[h1,h2,Ne.symm h2]
theorem Sub.dels(l:List Nat):Sub (dels h l) h:=fun id o hg=>by
 rw[pK]at hg;split at hg
 ·cases hg
 ·exact hg
theorem Jb(r:Rep ι E w n h){S:Nat->Prop}{x:AV}{v:Value}{K:AV->Prop}(hx:Rel E w ι x v)(hS:∀id,id∈Eh x->S id)(hq:Ja h x K):∃y,Rel (Dj ι h S E) w ι y v/\K y/\Eh y=[]/\(y=x\/(∃ys,y=.lst ys)\/∃cs,y=.fp cs):=by
 have hk:Keeps E w (Dj ι h S E) w:=yB S;have same:Ja h x K=K x->Eh x=[]->∃y,Rel (Dj ι h S E) w ι y v/\K y/\Eh y=[]/\(y=x\/(∃ys,y=.lst ys)\/∃cs,y=.fp cs):=fun e hr=>⟨x,hx.keep hk (fun _ _ h=>h),e▸hq,hr,.inl rfl⟩
 cases x with
 |os id sz off len=>
  simp only[Ja]at hq;cases hg:get h id with
  |none=>simp[hg]at hq
  |some ob=>
   cases ob with
   |box _=>simp[hg]at hq
   |spc _=>simp[hg]at hq
   |arr sz' xs=>
    simp only[hg]at hq;cases hs:Nat.beq sz sz' with
    |false=>simp[hs]at hq
    |true=>
     simp only[hs]at hq;have hs:=aX hs;subst hs;obtain⟨h1,h2⟩:=hq.elim;refine⟨_,?_,h2,rfl,.inr (.inl ⟨_,rfl⟩)⟩;have hz:=G2 r hg;have hx':=hx;cases hx with
     |osz _ _ _ a=>rw[cP];exact .lnil _ _
     |os _ _ _ _ b base cap hι hc hcell=>
      have hE:¬Dj ι h S E b:=fun hh=>hh.2 ⟨id,_,base,hS id (by simp[Eh,W5]),hg,hι⟩;have hlen:((xs.drop off).take len).length=len:=by simp;omega
      have hb:=oI r hg hι;rcases r.obj id _ hg with⟨h3,_⟩|⟨b',base',h3,h4,h5,h6,h7⟩
      ·rw[hι]at h3;cases h3
      ·rw[hι]at h3;cases h3;have hget:∀(i:Nat) x,((xs.drop off).take len)[i]? =some x->xs[off+i]? =some x:=by
        intro i x hx;rw[cW]at hx;split at hx
        ·rwa[cD]at hx
        ·cases hx
       refine .lst _ b _ _ cap sz hE hb hlen.symm hc (fun i x hx=>h6 _ x (hget i x hx)) (fun i j=>(w.cell? ⟨b,base+off*sz+i*sz+j,none⟩).getD default) (fun i x j y hx hy=>?_) (fun i x j y hx hy=>?_)
       ·obtain⟨u,hu,_⟩:=h7 _ x j y (hget i x hx) hy;rw[show base+(off+i)*sz+j=base+off*sz+i*sz+j by rw[cF];omega]at hu;simp[hu]
       ·obtain⟨u,hu,_,hr⟩:=h7 _ x j y (hget i x hx) hy;rw[show base+(off+i)*sz+j=base+off*sz+i*sz+j by rw[cF];omega]at hu;simp only[hu,cY];exact hr.keep hk (fun _ _ h=>h)
 |op id off=>
  simp only[Ja]at hq;cases hg:get h id with
  |none=>simp[hg]at hq
  |some ob=>
   cases ob with
   |arr _ _=>simp[hg]at hq
   |spc _=>simp[hg]at hq
   |box cs=>
    simp only[hg]at hq;cases hp:cs.all AV.pure1 with
    |false=>simp[hp]at hq
    |true=>
     simp only[hp]at hq;refine⟨_,?_,(by rw[nA]at hq;exact hq),rfl,.inr (.inr ⟨_,rfl⟩)⟩;cases hx with
     |op _ _ b base hι=>
      have hE:¬Dj ι h S E b:=fun hh=>hh.2 ⟨id,_,base,hS id (by simp[Eh,W5]),hg,hι⟩;obtain⟨b',base',h3,h4,h5,h6⟩:=r.obj id _ hg;rw[hι]at h3;cases h3;refine O6 hE h5 (fun j y hy=>?_);rw[cD]at hy;obtain⟨u,hu,_,hr⟩:=h6 _ y hy;rw[bP]at hp;exact⟨u,by rw[cE];exact hu,(hr.pure1 (hp y (aI hy))).keep hk (fun _ _ h=>h)⟩
 |ep=>simp[Ja]at hq
 |mp=>simp[Ja]at hq
 |fn f a b=>
  have hn:C5 a++C5 b=[]:=by
   simp only[Ja]at hq;split at hq
   ·assumption
   ·exact hq.elim
  exact same (by simp only[Ja,hn]) hn
 |_=>exact same rfl rfl
theorem RL.cons{E':Nat->Prop}{ι':Inj}{x:AV}{v:Value}{xs:List AV}{vs:List Value}(h1:Rel E' w ι' x v)(h2:RL E' w ι' xs ⟨vs⟩):RL E' w ι' (x::xs) ⟨v::vs⟩:=by
 refine⟨by simp;exact h2.1,fun i a b ha hb=>?_⟩;cases i with
 |zero=>simp at ha hb;subst ha;subst hb;exact h1
 |succ i=>exact h2.2 i a b (by simpa using ha) (by simpa using hb)
theorem RL.head{x:AV}{xs:List AV}{c:Array Value}(h:RL E w ι (x::xs) c):∃v vs,c=⟨v::vs⟩/\Rel E w ι x v/\RL E w ι xs ⟨vs⟩:=by
 obtain⟨l⟩:=c;cases l with
 |nil=>have:=h.1;simp at this
 |cons v vs=>
  refine⟨v,vs,rfl,h.2 0 x v rfl rfl,by have:=h.1;simp at this⊢;exact this,fun i a b ha hb=>h.2 (i+1) a b (by simpa using ha) (by simpa using hb)⟩
theorem RL.nil{c:Array Value}(h:RL E w ι [] c):c=#[]:=by
 have:=h.1;simp at this;exact dG this.symm
theorem sK(r:Rep ι E w n h){S:Nat->Prop}:∀{xs:List AV} {c:Array Value} {K:List AV->Prop},RL E w ι xs c->(∀id,id∈mY xs->S id)->Q3 h xs K->∃ys,RL (Dj ι h S E) w ι ys c/\K ys/\mY ys=[]
 |[],c,K,hx,_,hq=>by
  cases hx.nil;exact⟨[],oZ,hq,rfl⟩
 |x::xs,c,K,hx,hS,hq=>by
  obtain⟨v,vs,rfl,h1,h2⟩:=hx.head;obtain⟨y,a1,a2,a3,_⟩:=Jb r h1 (fun id hid=>hS id (by simp[mY,hid])) hq;obtain⟨ys,b1,b2,b3⟩:=sK r h2 (fun id hid=>hS id (by simp[mY,hid])) a2;exact⟨y::ys,RL.cons a1 b1,b2,by simp[mY,a3,b3]⟩
theorem zP(r:Rep ι E w n h){S:Nat->Prop}{x:AV}{v:Value}{K:AV->Prop}(hx:Rel E w ι x v)(hS:∀id,id∈tF x->S id)(hq:aBn h x K):∃y,Rel (Dj ι h S E) w ι y v/\K y/\tF y=[]:=by
 have atom:aBn h x K=Ja h x K->tF x=Eh x->∃y,Rel (Dj ι h S E) w ι y v/\K y/\tF y=[]:=by
  intro e1 e2;rw[e1]at hq;rw[e2]at hS;obtain⟨y,a1,a2,a3,a4⟩:=Jb r hx hS hq;refine⟨y,a1,a2,?_⟩;rcases a4 with rfl|⟨ys,rfl⟩|⟨cs,rfl⟩
  ·rw[e2];exact a3
  ·rfl
  ·rfl
 cases x with
 |agg cs=>
  cases hx with
  |agg _ c hs h=>
   obtain⟨ys,b1,b2,b3⟩:=sK r (⟨hs,h⟩:RL E w ι cs c) hS hq;exact⟨_,.agg _ _ b1.1 b1.2,b2,b3⟩
 |fn f a b=>
  cases hx with
  |fn _ _ _ F C hF hC h1 h2=>
   obtain⟨ys,b1,b2,b3⟩:=sK r (⟨hF,h1⟩:RL E w ι a F) (fun id hid=>hS id (by simp[tF,hid])) hq;obtain⟨zs,c1,c2,c3⟩:=sK r (⟨hC,h2⟩:RL E w ι b C) (fun id hid=>hS id (by simp[tF,hid])) b2;exact⟨_,.fn f _ _ _ _ b1.1 c1.1 b1.2 c1.2,c2,by simp[tF,b3,c3]⟩
 |_=>exact atom rfl rfl
theorem wO(r:Rep ι E w n h){S:Nat->Prop}:∀{xs:List AV} {c:Array Value} {K:List AV->Prop},RL E w ι xs c->(∀id,id∈oY xs->S id)->Wd h xs K->∃ys,RL (Dj ι h S E) w ι ys c/\K ys/\oY ys=[]
 |[],c,K,hx,_,hq=>by
  cases hx.nil;exact⟨[],oZ,hq,rfl⟩
 |x::xs,c,K,hx,hS,hq=>by
  obtain⟨v,vs,rfl,h1,h2⟩:=hx.head;obtain⟨y,a1,a2,a3⟩:=zP r h1 (fun id hid=>hS id (by simp[oY,hid])) hq;obtain⟨ys,b1,b2,b3⟩:=wO r h2 (fun id hid=>hS id (by simp[oY,hid])) a2;exact⟨y::ys,RL.cons a1 b1,b2,by simp[oY,a3,b3]⟩
theorem Rel.noref1{x:AV}{v:Value}{ι':Inj}(hx:Rel E w ι x v)(hn:x.noref1=true):Rel E w ι' x v:=by
 cases hx with
 |v=>exact .v _
 |sb b=>exact .sb b
 |nils=>exact .nils
 |lnil a c=>exact .lnil a c
 |lst xs b off n cap sz hE hb hnn hcap hz g hg h=>exact .lst xs b off n cap sz hE hb hnn hcap hz g hg h
 |fp cs b off hE hb g hg h=>exact .fp cs b off hE hb g hg h
 |junk=>exact .junk _
 |fn f fs cs F C hF hC h1 h2=>
  cases fs<;>cases cs<;>simp[AV.noref1]at hn
  exact .fn f [] [] F C hF hC (fun i x y hx _=>by simp at hx) (fun i x y hx _=>by simp at hx)
 |_=>simp[AV.noref1]at hn
theorem RL.noref1{xs:List AV}{c:Array Value}{ι':Inj}(hx:RL E w ι xs c)(hn:xs.all AV.noref1=true):RL E w ι' xs c:=by
 rw[bP]at hn;exact⟨hx.1,fun i x y h1 h2=>(hx.2 i x y h1 h2).noref1 (hn x (aI h1))⟩
theorem Rel.noref{x:AV}{v:Value}{ι':Inj}(hx:Rel E w ι x v)(hn:x.noref=true):Rel E w ι' x v:=by
 cases x with
 |agg cs=>
  cases hx with
  |agg _ c hs h=>
   have:=RL.noref1 (ι':=ι') (⟨hs,h⟩:RL E w ι cs c) hn;exact .agg _ _ this.1 this.2
 |fn f a b=>
  cases hx with
  |fn _ _ _ F C hF hC h1 h2=>
   simp only[AV.noref,aJ]at hn;have t1:=RL.noref1 (ι':=ι') (⟨hF,h1⟩:RL E w ι a F) hn.1;have t2:=RL.noref1 (ι':=ι') (⟨hC,h2⟩:RL E w ι b C) hn.2;exact .fn f _ _ _ _ t1.1 t2.1 t1.2 t2.2
 |_=>exact Rel.noref1 hx hn
theorem RL.noref{xs:List AV}{c:Array Value}{ι':Inj}(hx:RL E w ι xs c)(hn:xs.all AV.noref=true):RL E w ι' xs c:=by
 rw[bP]at hn;exact⟨hx.1,fun i x y h1 h2=>(hx.2 i x y h1 h2).noref (hn x (aI h1))⟩
theorem ORel.pure{id id':Nat}{o:Obj}{ι':Inj}(ho:ORel E w ι id o)(hp:Ws o=true)(he:ι' id'=ι id):ORel E w ι' id' o:=by
 cases o with
 |box cs=>
  obtain⟨b,base,h1,h2,h3,h4⟩:=ho;simp only[Ws,bP]at hp;refine⟨b,base,by rw[he];exact h1,h2,h3,fun i c hc=>?_⟩;obtain⟨u,h5,h6,h7⟩:=h4 i c hc;exact⟨u,h5,h6,h7.pure1 (hp c (aI hc))⟩
 |arr sz xs=>
  rcases ho with⟨h1,h2⟩|⟨b,base,h1,h2⟩
  ·exact .inl ⟨by rw[he];exact h1,h2⟩
  ·exact .inr ⟨b,base,by rw[he];exact h1,h2⟩
 |spc s=>
  obtain⟨b,base,h1,h2,h3,o,h4,h5⟩:=ho;refine⟨b,base,by rw[he];exact h1,h2,h3,o,h4,?_⟩;cases s with
  |it _ _ _ _=>cases hp
  |_=>exact h5
theorem oL:∀(os:List Obj) (k id:Nat) (o:Obj),get (iV k os) id=some o↔(k<=id/\os[id-k]? =some o/\wR o=false)
 |[],k,id,o=>by simp[iV,get]
 |x::os,k,id,o=>by
  have ih:=oL os (k+1) id o;have hne:k<=id->id≠k->(x::os)[id-k]? =os[id-(k+1)]? :=fun h1 h2=>by
   rw[show id-k=(id-(k+1))+1 by omega];rfl
  simp only[iV];cases hg:wR x with
  |true=>
   simp only;rw[ih];constructor
   ·rintro⟨h1,h2,h3⟩
    exact⟨by omega,by rw[hne zo zo];exact h2,h3⟩
   ·rintro⟨h1,h2,h3⟩
    by_cases e:id=k
    ·subst e;simp at h2;subst h2;rw[hg]at h3;cases h3
    ·exact⟨by omega,by rw[<-hne h1 e];exact h2,h3⟩
  |false=>
   simp only;rw[iQ];by_cases e:k=id
   ·subst e;rw[aH rfl];simp only[aK,dT,eP,true_and,bQ];constructor
    ·rintro rfl;exact⟨rfl,hg⟩
    ·rintro⟨h,_⟩;exact h
   ·rw[aF e,ih];constructor
    ·rintro⟨h1,h2,h3⟩
     exact⟨by omega,by rw[hne zo zo];exact h2,h3⟩
    ·rintro⟨h1,h2,h3⟩
     exact⟨by omega,by rw[<-hne h1 zo];exact h2,h3⟩
theorem uG:∀(ids:List Nat) (hs:List Obj) (n:Nat) (base:Hp) (id:Nat) (o:Obj),get (pL ids hs n base) id=some o->
  (∃j:Nat,ids[j]? =some id/\hs[j]? =some o/\wR o=false)\/(∃j:Nat,id=n+j/\hs[ids.length+j]? =some o/\wR o=false)\/get base id=some o
 |ids,[],n,base,id,o,h=>by simp only[pL]at h;exact .inr (.inr h)
 |[],x::hs,n,base,id,o,h=>by
  have step:get (pL [] hs (n+1) base) id=some o->(∃j:Nat,([]:List Nat)[j]? =some id/\(x::hs)[j]? =some o/\wR o=false)\/(∃j:Nat,id=n+j/\(x::hs)[([]:List Nat).length+j]? =some o/\wR o=false)\/get base id=some o:=fun h=>by
   rcases uG [] hs (n+1) base id o h with⟨j,h1,_⟩|⟨j,h1,h2,h3⟩|h1
   ·simp at h1
   ·exact .inr (.inl ⟨j+1,by omega,by simpa using h2,h3⟩)
   ·exact .inr (.inr h1)
  simp only[pL]at h;split at h
  ·exact step h
  ·rename_i hg;rw[iQ]at h;split at h
   ·rename_i e;subst e;cases h;exact .inr (.inl ⟨0,rfl,rfl,hg⟩)
   ·exact step h
 |i::ids,x::hs,n,base,id,o,h=>by
  have step:get (pL ids hs n base) id=some o->(∃j:Nat,(i::ids)[j]? =some id/\(x::hs)[j]? =some o/\wR o=false)\/(∃j:Nat,id=n+j/\(x::hs)[(i::ids).length+j]? =some o/\wR o=false)\/get base id=some o:=fun h=>by
   rcases uG ids hs n base id o h with⟨j,h1,h2,h3⟩|⟨j,h1,h2,h3⟩|h1
   ·exact .inl ⟨j+1,by simpa using h1,by simpa using h2,h3⟩
   ·exact .inr (.inl ⟨j,h1,by simp only[aB];rw[show ids.length+1+j=(ids.length+j)+1 by omega];exact h2,h3⟩)
   ·exact .inr (.inr h1)
  simp only[pL]at h;split at h
  ·exact step h
  ·rename_i hg;rw[iQ]at h;split at h
   ·rename_i e;subst e;cases h;exact .inl ⟨0,rfl,rfl,hg⟩
   ·exact step h
/-! ### Names changed -/
def R6(ρ:Nat->Option Nat)(x:AV):AV:=
 match x with
 |.op id off=>(match ρ id with
  |some j=>.op j off
  |none=>.junk)
 |.ep id sz i off=>(match ρ id with
  |some j=>.ep j sz i off
  |none=>.junk)
 |.os id sz off len=>(match ρ id with
  |some j=>.os j sz off len
  |none=>.junk)
 |.mp id=>(match ρ id with
  |some j=>.mp j
  |none=>.junk)
 |.agg _=>.junk
 |.tup _=>.junk
 |.fn f [] []=>.fn f [] []
 |.fn _ _ _=>.junk
 |x=>x
def W9(ρ:Nat->Option Nat):List AV->List AV
 |[]=>[]
 |x::xs=>R6 ρ x::W9 ρ xs
def aIE(ρ:Nat->Option Nat)(x:AV):AV:=
 match x with
 |.fn f a b=>.fn f (W9 ρ a) (W9 ρ b)
 |x=>R6 ρ x
def J2(ρ:Nat->Option Nat):List AV->List AV
 |[]=>[]
 |x::xs=>aIE ρ x::J2 ρ xs
def aDI(ρ:Nat->Option Nat):Spc->Spc
 |.it mid τ L l=>.it (match mid with|some i=>ρ i|none=>none) τ L l
 |s=>s
def tR(ρ:Nat->Option Nat):Obj->Obj
 |.box cs=>.box (J2 ρ cs)
 |.arr sz xs=>.arr sz xs
 |.spc s=>.spc (aDI ρ s)
def aPE(ρ:Nat->Option Nat)(s:Spc)(K:Spc->Prop):Prop:=
 match s with
 |.m f=>K (.m f)
 |.mt f τ=>K (.mt f τ)
 |.it mid τ L l=>(match mid with
  |some i=>(match ρ i with
   |some j=>K (.it (some j) τ L l)
   |none=>K (.it none τ L l))
  |none=>K (.it none τ L l))
theorem aIG(ρ:Nat->Option Nat)(s:Spc)(K:Spc->Prop):aPE ρ s K=K (aDI ρ s):=by
 cases s with
 |it mid τ L l=>
  cases mid with
  |none=>rfl
  |some i=>simp only[aPE,aDI];cases ρ i<;>rfl
 |_=>rfl
def rK(ρ:Nat->Option Nat):List Obj->(List Obj->Prop)->Prop
 |[],K=>K []
 |.box cs::r,K=>rG (J2 ρ cs) fun ds=>rK ρ r fun r'=>K (.box ds::r')
 |.arr sz xs::r,K=>rK ρ r fun r'=>K (.arr sz xs::r')
 |.spc s::r,K=>aPE ρ s fun s'=>rK ρ r fun r'=>K (.spc s'::r')
theorem oN(ρ:Nat->Option Nat):∀(os:List Obj) (K:List Obj->Prop),rK ρ os K=K (os.map (tR ρ))
 |[],K=>rfl
 |.box cs::r,K=>by simp only[rK,nA,oN ρ r,aR,tR]
 |.arr sz xs::r,K=>by simp only[rK,oN ρ r,aR,tR]
 |.spc s::r,K=>by simp only[rK,aIG,oN ρ r,aR,tR]
theorem sL(ρ:Nat->Option Nat)(o:Obj):wR (tR ρ o)=wR o:=by
 cases o with
 |box cs=>cases cs<;>rfl
 |arr sz xs=>rfl
 |spc s=>rfl
def Ra(i:Nat):List Nat->Nat->Option Nat
 |[],_=>none
 |j::l,k=>match Nat.beq j i with
  |true=>some k
  |false=>Ra i l (k+1)
def sP(h:Hp):List Nat->Option (List Obj)
 |[]=>some []
 |i::l=>match get h i,sP h l with
  |some o,some os=>some (o::os)
  |_,_=>none
theorem R7{ρ:Nat->Option Nat}{ι':Inj}(hρ:∀id j p,ρ id=some j->ι id=some p->ι' j=some p){x:AV}{v:Value}(hx:Rel E w ι x v):Rel E w ι' (R6 ρ x) v:=by
 cases hx with
 |v y=>exact .v _
 |sb b=>exact .sb b
 |nils=>exact .nils
 |lnil a c=>exact .lnil a c
 |lst xs b off n cap sz hE hb hn hcap hz g hg h=>exact .lst xs b off n cap sz hE hb hn hcap hz g hg h
 |fp cs b off hE hb g hg h=>exact .fp cs b off hE hb g hg h
 |junk y=>exact .junk _
 |agg cs c=>exact .junk _
 |tup cs c=>exact .junk _
 |fn f fs cs F C hF hC h1 h2=>
  cases fs with
  |nil=>cases cs with
   |nil=>exact .fn f [] [] F C hF hC (fun i x y hx _=>by simp at hx) (fun i x y hx _=>by simp at hx)
   |cons c cs=>exact .junk _
  |cons c cs=>exact .junk _
 |op id off b base hι=>
  simp only[R6];cases hj:ρ id with
  |none=>exact .junk _
  |some j=>exact .op j off b base (hρ _ _ _ hj hι)
 |ep id sz i off b base hι=>
  simp only[R6];cases hj:ρ id with
  |none=>exact .junk _
  |some j=>exact .ep j sz i off b base (hρ _ _ _ hj hι)
 |osz id sz off a=>
  simp only[R6];cases hj:ρ id with
  |none=>exact .junk _
  |some j=>exact .osz j sz off a
 |os id sz off len b base cap hι hc hcell=>
  simp only[R6];cases hj:ρ id with
  |none=>exact .junk _
  |some j=>exact .os j sz off len b base cap (hρ _ _ _ hj hι) hc hcell
 |mp id b base hι=>
  simp only[R6];cases hj:ρ id with
  |none=>exact .junk _
  |some j=>exact .mp j b base (hρ _ _ _ hj hι)
 |dfr=>exact .dfr _ _ _
theorem Fx{ρ:Nat->Option Nat}{ι':Inj}(hρ:∀id j p,ρ id=some j->ι id=some p->ι' j=some p):∀{xs:List AV} {c:Array Value},RL E w ι xs c->RL E w ι' (W9 ρ xs) c
 |[],c,hx=>by cases hx.nil;exact oZ
 |x::xs,c,hx=>by
  obtain⟨v,vs,rfl,h1,h2⟩:=hx.head;exact RL.cons (R7 hρ h1) (Fx hρ h2)
theorem J0{ρ:Nat->Option Nat}{ι':Inj}(hρ:∀id j p,ρ id=some j->ι id=some p->ι' j=some p){x:AV}{v:Value}(hx:Rel E w ι x v):Rel E w ι' (aIE ρ x) v:=by
 cases x with
 |fn f a b=>
  cases hx with
  |fn _ _ _ F C hF hC h1 h2=>
   have k1:=Fx hρ (⟨hF,h1⟩:RL E w ι a F);have k2:=Fx hρ (⟨hC,h2⟩:RL E w ι b C);exact .fn f _ _ _ _ k1.1 k2.1 k1.2 k2.2
 |_=>exact R7 hρ hx
theorem Eo{ρ:Nat->Option Nat}{ι':Inj}(hρ:∀id j p,ρ id=some j->ι id=some p->ι' j=some p):∀{xs:List AV} {c:Array Value},RL E w ι xs c->RL E w ι' (J2 ρ xs) c
 |[],c,hx=>by cases hx.nil;exact oZ
 |x::xs,c,hx=>by
  obtain⟨v,vs,rfl,h1,h2⟩:=hx.head;exact RL.cons (J0 hρ h1) (Eo hρ h2)
theorem vC:∀{l:List Nat} {i k q:Nat},Ra i l k=some q->k<=q/\l[q-k]? =some i
 |[],i,k,q,h=>by simp[Ra]at h
 |j::l,i,k,q,h=>by
  simp only[Ra]at h;split at h
  ·rename_i hb;have:=aX hb;subst this;cases h;exact⟨aK _,by simp⟩
  ·obtain⟨h1,h2⟩:=vC h;refine⟨by omega,?_⟩;rw[show q-k=(q-(k+1))+1 by omega];exact h2
theorem ORel.ren{id id':Nat}{o:Obj}{ι':Inj}{ρ:Nat->Option Nat}(ho:ORel E w ι id o)(hρ:∀id j p,ρ id=some j->ι id=some p->ι' j=some p)(he:ι' id'=ι id):ORel E w ι' id' (tR ρ o):=by
 cases o with
 |box cs=>
  obtain⟨b,base,h1,h2,h3,h4⟩:=ho;refine⟨b,base,by rw[he];exact h1,h2,h3,fun i c hc=>?_⟩;have hl:∀(l:List AV) (k:Nat),(J2 ρ l)[k]? =(l[k]?).map (aIE ρ):=by
   intro l
   induction l with
   |nil=>intro k;simp[J2]
   |cons x xs ih=>intro k;cases k with
    |zero=>simp[J2]
    |succ k=>simpa[J2]using ih k
  rw[hl,bS]at hc;obtain⟨c0,h5,rfl⟩:=hc;obtain⟨u,h6,h7,h8⟩:=h4 i c0 h5;exact⟨u,h6,h7,J0 hρ h8⟩
 |arr sz xs=>
  rcases ho with⟨h1,h2⟩|⟨b,base,h1,h2⟩
  ·exact .inl ⟨by rw[he];exact h1,h2⟩
  ·exact .inr ⟨b,base,by rw[he];exact h1,h2⟩
 |spc s=>
  obtain⟨b,base,h1,h2,h3,o,h4,h5⟩:=ho;refine⟨b,base,by rw[he];exact h1,h2,h3,o,h4,?_⟩;cases s with
  |it mid τ L l=>
   obtain⟨k0,bm,since,seen,c0,k1,k2,k3⟩:=h5;refine⟨k0,bm,since,seen,c0,k1,fun j e=>?_,k3⟩;cases mid with
   |none=>cases e
   |some i=>obtain⟨bb,hb⟩:=k2 i rfl;exact⟨bb,hρ _ _ _ e hb⟩
  |_=>exact h5
def inN(ids:List Nat)(i:Nat):Option Nat:=Ra i ids 0
def wE(ids:List Nat)(n:Nat)(j:Nat):Option Nat:=
 match ids[j]? with
 |some id=>some id
 |none=>some (n+(j-ids.length))
def jE(ι:Inj)(ids:List Nat):Inj:=fun j=>match ids[j]? with
 |some id=>ι id
 |none=>none
theorem Ig(r:Rep ι E w n h){ids:List Nat}{objs:List Obj}(hnd:ids.Nodup)(hl:ids.length=objs.length)(ho:∀(j:Nat) id o,ids[j]? =some id->objs[j]? =some o->wR o=false->get h id=some o):
  Rep (jE ι ids) E w (objs.map (tR (inN ids))).length (iV 0 (objs.map (tR (inN ids)))):=by
 have hget:∀(j:Nat) o,get (iV 0 (objs.map (tR (inN ids)))) j=some o->∃id o0,ids[j]? =some id/\objs[j]? =some o0/\get h id=some o0/\jE ι ids j=ι id/\o=tR (inN ids) o0:=by
  intro j o hj;rw[oL]at hj;simp only[aO,true_and,eN,bO,bS]at hj;obtain⟨⟨o0,hj,rfl⟩,hgn⟩:=hj;rw[sL]at hgn;have hlt:j<ids.length:=by
   rw[hl];rcases aC j objs.length with h|h
   ·exact h
   ·simp[h]at hj
  have hi:=aE hlt;exact⟨_,o0,hi,hj,ho _ _ _ hi hj hgn,by simp[jE,hi],rfl⟩
 have hρ:∀id j p,inN ids id=some j->ι id=some p->jE ι ids j=some p:=by
  intro id j p hj hp;obtain⟨_,h5⟩:=vC hj;simp only[eN]at h5;simp[jE,h5,hp]
 refine⟨fun j hj=>?_,fun j o hj=>?_,fun j j' o o' b base base' h1 h2 h3 h4=>?_,r.bound,r.glob⟩
 ·rw[aA]at hj;simp[jE,bN (show ids.length<=j by omega)]
 ·obtain⟨id,o0,a1,a2,a3,a4,rfl⟩:=hget j o hj;exact(r.obj id o0 a3).ren hρ a4
 ·obtain⟨id,_,a1,a2,a3,a4,_⟩:=hget j o h1;obtain⟨id',_,b1,b2,b3,b4,_⟩:=hget j' o' h2;rw[a4]at h3;rw[b4]at h4;have:=r.sep _ _ _ _ _ _ _ a3 b3 h3 h4;subst this;have hj1:j<ids.length:=by
   rcases aC j ids.length with h|h
   ·exact h
   ·simp[h]at a1
  exact(List.getElem?_inj hj1 hnd).1 (a1.trans b1.symm)
theorem Yk(r:Rep ι E w n h){ids:List Nat}{objs hs':List Obj}(hnd:ids.Nodup)(hl:ids.length=objs.length)(ho:∀(j:Nat) id o,ids[j]? =some id->objs[j]? =some o->get h id=some o)
  {ι':Inj}{E':Nat->Prop}{w':World}(hle:ids.length<=hs'.length)(r':Rep ι' E' w' hs'.length (iV 0 hs'))(x:Ext (jE ι ids) (iV 0 (objs.map (tR (inN ids)))) E w ι' (iV 0 hs') E' w'):
  Rep (fun id=>if id<n then ι id else ι' (ids.length+(id-n))) E' w' (n+(hs'.length-ids.length)) (pL ids (hs'.map (tR (wE ids n))) n (dels h ids))/\
  Ext ι h E w (fun id=>if id<n then ι id else ι' (ids.length+(id-n))) (pL ids (hs'.map (tR (wE ids n))) n (dels h ids)) E' w'/\
  (∀id j p,wE ids n id=some j->ι' id=some p->(fun id=>if id<n then ι id else ι' (ids.length+(id-n))) j=some p):=by
 have hlt:∀id p,ι id=some p->id<n:=by
  intro id p hp;rcases aC id n with h|h
  ·exact h
  ·rw[r.fresh id h]at hp;cases hp
 have hget0:∀{id o},get h id=some o->id<n:=by
  intro id o hg;have:=r.obj id o hg;cases o with
  |box cs=>obtain⟨b,base,h1,_⟩:=this;exact hlt _ _ h1
  |spc s=>obtain⟨b,base,h1,_⟩:=this;exact hlt _ _ h1
  |arr sz xs=>
   rcases this with⟨h1,_⟩|⟨b,base,h1,_⟩
   ·exact hlt _ _ h1
   ·exact hlt _ _ h1
 have hidin:∀{j id:Nat},ids[j]? =some id->∃o,objs[j]? =some o/\get h id=some o:=by
  intro j id hj;have hj':j<objs.length:=by
   rw[<-hl];rcases aC j ids.length with h|h
   ·exact h
   ·simp[h]at hj
  exact⟨_,aE hj',ho _ _ _ hj (aE hj')⟩
 -- the callee's names mean what the caller's do
 have hcal:∀{j id:Nat},ids[j]? =some id->ι' j=ι id:=by
  intro j id hj;obtain⟨o,h1,h2⟩:=hidin hj;have h3:jE ι ids j=ι id:=by simp[jE,hj]
  cases hq:ι id with
  |none=>
   have:=r.obj id o h2;cases o with
   |box cs=>obtain⟨b,base,h4,_⟩:=this;rw[hq]at h4;cases h4
   |spc s=>obtain⟨b,base,h4,_⟩:=this;rw[hq]at h4;cases h4
   |arr sz xs=>
    rcases this with⟨h4,_⟩|⟨b,base,h4,_⟩<;>(rw[hq]at h4;cases h4)
  |some p=>exact x.inj j p (by rw[h3,hq])
 have hown:∀{b},Own (jE ι ids) (iV 0 (objs.map (tR (inN ids)))) b->∃(j id:Nat) (o:Obj) (base:Nat),ids[j]? =some id/\get h id=some o/\ι id=some (some (b,base)):=by
  rintro b ⟨j,o,base,h1,h2⟩
  rw[oL]at h1;simp only[aO,true_and,eN,bO,bS]at h1;obtain⟨⟨o0,h1,rfl⟩,_⟩:=h1;have hj:j<ids.length:=by
   rw[hl];rcases aC j objs.length with h|h
   ·exact h
   ·simp[h]at h1
  have hi:=aE hj;refine⟨j,_,o0,base,hi,ho _ _ _ hi h1,?_⟩;simp only[jE,hi]at h2;exact h2
 have hnotown:∀{id o b base},get (dels h ids) id=some o->ι id=some (some (b,base))->¬Own (jE ι ids) (iV 0 (objs.map (tR (inN ids)))) b:=by
  intro id o b base hg hb hO;obtain⟨j,id',o',base',h1,h2,h3⟩:=hown hO;have:=r.sep _ _ _ _ _ _ _ (Sub.dels ids _ _ hg) h2 hb h3;subst this;rw[pK,aH (aI h1)]at hg;cases hg
 have hin:∀id p,ι id=some p->(fun id=>if id<n then ι id else ι' (ids.length+(id-n))) id=some p:=by
  intro id p hp;simp only[hlt id p hp,if_true];exact hp
 have hk:∀b,b<w.heap.size->¬Own (jE ι ids) (iV 0 (objs.map (tR (inN ids)))) b->w'.heap[b]? =w.heap[b]? /\(E' b↔E b):=x.old;have hkeep:Keeps E w E' w':=⟨x.size,fun b hb hE=>by
  have hno:¬Own (jE ι ids) (iV 0 (objs.map (tR (inN ids)))) b:=fun hO=>by
   obtain⟨j,id,o,base,h1,h2,h3⟩:=hown hO;exact hE (r.own_E ⟨id,o,base,h2,h3⟩)
  obtain⟨a,c⟩:=hk b hb hno;exact⟨a,fun h=>hE (c.1 h)⟩,x.some,fun a ha=>x.mark a (nP ha)⟩
 have hback:∀id j p,wE ids n id=some j->ι' id=some p->(if j<n then ι j else ι' (ids.length+(j-n)))=some p:=by
  intro id j p hj hp;unfold wE at hj;cases hi:ids[id]? with
  |some q=>
   simp only[hi,bQ]at hj;subst hj;obtain⟨_,_,h3⟩:=hidin hi;rw[aH (hget0 h3),<-hcal hi];exact hp
  |none=>
   simp only[hi,bQ]at hj;subst hj;have hge:ids.length<=id:=by
    rcases aC id ids.length with h'|h'
    ·simp[h']at hi
    ·exact h'
   rw[aF zo,<-hp];congr 1;omega
 refine⟨⟨fun id hid=>?_,fun id o hg=>?_,fun id id' o o' b base base' h1 h2 h3 h4=>?_,r'.bound,r'.glob⟩,⟨x.os,x.tape,x.output,x.size,hin,fun b hb hno=>?_,fun b hb hO=>?_,x.some,x.mark,x.drawn⟩,hback⟩
 ·simp only[show ¬id<n by omega,if_false];exact r'.fresh _ zo
 ·rcases uG _ _ _ _ _ _ hg with⟨j,h1,h2,hgn⟩|⟨j,rfl,h2,hgn⟩|h1
  ·obtain⟨o',_,h3⟩:=hidin h1;rw[bO,bS]at h2;obtain⟨o0,h2,rfl⟩:=h2;rw[sL]at hgn;have hj:get (iV 0 hs') j=some o0:=by rw[oL];exact⟨aO _,by simpa using h2,hgn⟩
   refine(r'.obj j o0 hj).ren hback ?_;simp only[hget0 h3,if_true];exact(hcal h1).symm
  ·rw[bO,bS]at h2;obtain⟨o0,h2,rfl⟩:=h2;rw[sL]at hgn;have hj:get (iV 0 hs') (ids.length+j)=some o0:=by rw[oL];exact⟨aO _,by simpa using h2,hgn⟩
   refine(r'.obj _ o0 hj).ren hback ?_;simp;intro h;omega
  ·have hg':=Sub.dels ids _ _ h1;refine(r.obj id o hg').keep hkeep hin (fun b base hb=>?_) (fun b base hb=>?_)
   ·have:=oI r hg' hb;exact(hk b this (hnotown h1 hb)).2.2 (r.own_E ⟨id,o,base,hg',hb⟩)
   ·exact(hk b (oI r hg' hb) (hnotown h1 hb)).1
 · -- apart
   have cls:∀{id o b base},get (pL ids (hs'.map (tR (wE ids n))) n (dels h ids)) id=some o->(if id<n then ι id else ι' (ids.length+(id-n)))=some (some (b,base))->
     (∃(j:Nat) (o0:Obj),get (iV 0 hs') j=some o0/\ι' j=some (some (b,base))/\((ids[j]? =some id/\id<n)\/(j=ids.length+(id-n)/\n<=id)))\/(get (dels h ids) id=some o/\ι id=some (some (b,base))/\id<n):=by
    intro id o b base hg hb;rcases uG _ _ _ _ _ _ hg with⟨j,h1,h2,hgn⟩|⟨j,rfl,h2,hgn⟩|h1
    ·obtain⟨o',_,h3⟩:=hidin h1;rw[aH (hget0 h3)]at hb;rw[bO,bS]at h2;obtain⟨o0,h2,rfl⟩:=h2;rw[sL]at hgn;exact .inl ⟨j,o0,by rw[oL];exact⟨aO _,by simpa using h2,hgn⟩,by rw[hcal h1];exact hb,.inl ⟨h1,hget0 h3⟩⟩
    ·rw[aF zo]at hb;rw[bO,bS]at h2;obtain⟨o0,h2,rfl⟩:=h2;rw[sL]at hgn;exact .inl ⟨ids.length+j,o0,by rw[oL];exact⟨aO _,by simpa using h2,hgn⟩,by simpa using hb,.inr ⟨by omega,by omega⟩⟩
    ·have hl':=hget0 (Sub.dels ids _ _ h1);rw[aH hl']at hb;exact .inr ⟨h1,hb,hl'⟩
   have mixed:∀{id o b base j o' base'},get (dels h ids) id=some o->ι id=some (some (b,base))->get (iV 0 hs') j=some o'->ι' j=some (some (b,base'))->False:=by
    intro id o b base j o' base' a1 a2 a3 a4;have hb:=oI r (Sub.dels ids _ _ a1) a2;exact hnotown a1 a2 (x.own b hb ⟨j,o',base',a3,a4⟩)
   rcases cls h1 h3 with⟨j,_,a1,a2,a3⟩|⟨a1,a2,a3⟩<;>rcases cls h2 h4 with⟨j',_,b1,b2,b3⟩|⟨b1,b2,b3⟩
   ·have:=r'.sep _ _ _ _ _ _ _ a1 b1 a2 b2;subst this;rcases a3 with⟨c1,c2⟩|⟨c1,c2⟩<;>rcases b3 with⟨d1,d2⟩|⟨d1,d2⟩
    ·rw[c1]at d1;cases d1;rfl
    ·have:j<ids.length:=by
      rcases aC j ids.length with h|h
      ·exact h
      ·simp[h]at c1
     omega
    ·have:j<ids.length:=by
      rcases aC j ids.length with h|h
      ·exact h
      ·simp[h]at d1
     omega
    ·omega
   ·exact(mixed b1 b2 a1 a2).elim
   ·exact(mixed a1 a2 b1 b2).elim
   ·exact r.sep _ _ _ _ _ _ _ (Sub.dels ids _ _ a1) (Sub.dels ids _ _ b1) a2 b2
 ·exact hk b hb (fun hO=>by
   obtain⟨j,id,o,base,h1,h2,h3⟩:=hown hO;exact hno ⟨id,o,base,h2,h3⟩)
 ·obtain⟨id,o,base,hg,hb'⟩:=hO;rcases uG _ _ _ _ _ _ hg with⟨j,h1,h2,hgn⟩|⟨j,rfl,h2,hgn⟩|h1
  ·obtain⟨o',_,h3⟩:=hidin h1;simp only[hget0 h3,if_true]at hb';exact⟨id,o',base,h3,hb'⟩
  ·simp only[show ¬n+j<n by omega,if_false]at hb';rw[bO,bS]at h2;obtain⟨o0,h2,rfl⟩:=h2;rw[sL]at hgn;have hO:Own ι' (iV 0 hs') b:=⟨ids.length+j,o0,base,by rw[oL];exact⟨aO _,by simpa using h2,hgn⟩,by simpa using hb'⟩
   obtain⟨j',id',o',base',a1,a2,a3⟩:=hown (x.own b hb hO);exact⟨id',o',base',a2,a3⟩
  ·have hl':=hget0 (Sub.dels ids _ _ h1);simp only[hl',if_true]at hb';exact⟨id,o,base,Sub.dels ids _ _ h1,hb'⟩
end
def aPD(ρ:Nat->Option Nat)(x:AV):AV:=
 match x with
 |.agg cs=>.agg (J2 ρ cs)
 |.fn f a b=>.fn f (J2 ρ a) (J2 ρ b)
 |x=>aIE ρ x
def R8(ρ:Nat->Option Nat):List AV->List AV
 |[]=>[]
 |x::xs=>aPD ρ x::R8 ρ xs
def aIH(ρ:Nat->Option Nat)(x:AV):AV:=
 match x with
 |.tup vs=>.tup (R8 ρ vs)
 |x=>aPD ρ x
def tT(l:List Nat):List Nat->List Nat
 |[]=>l
 |i::r=>match Gj i l with
  |true=>tT l r
  |false=>tT (l++[i]) r
def aTN:Obj->List Nat
 |.box cs=>mY cs
 |.arr _ _=>[]
 |.spc _=>[]
def R3(h:Hp):List Nat->List Nat
 |[]=>[]
 |i::l=>match get h i with
  |some o=>aTN o++R3 h l
  |none=>R3 h l
def Ff(h:Hp):Nat->List Nat->List Nat
 |0,l=>l
 |k+1,l=>match Nat.beq (tT l (R3 h l)).length l.length with
  |true=>l
  |false=>Ff h k (tT l (R3 h l))
def Ni(h:Hp):Nat->List Nat->(List Nat->Prop)->Prop
 |0,l,K=>K l
 |k+1,l,K=>I8 (tT l (R3 h l)) fun l'=>match Nat.beq l'.length l.length with
  |true=>K l
  |false=>Ni h k l' K
theorem K7(h:Hp):∀(k:Nat) (l:List Nat) (K:List Nat->Prop),Ni h k l K=K (Ff h k l)
 |0,l,K=>rfl
 |k+1,l,K=>by
  simp only[Ni,Ff,wN];split
  ·rfl
  ·exact K7 h k _ K
def Jw(h:Hp)(all:List AV):List Nat:=Ff h 4 (tT [] (oY all))
def aPx(h:Hp)(all:List AV)(K:List Nat->Prop):Prop:=I8 (tT [] (oY all)) fun l=>Ni h 4 l K
theorem aIx(h:Hp)(all:List AV)(K:List Nat->Prop):aPx h all K=K (Jw h all):=by rw[aPx,wN,K7];rfl
def AV.flat1:AV->Bool
 |.v _=>true
 |.sb _=>true
 |.nils=>true
 |.junk=>true
 |.lst []=>true
 |_=>false
def AV.flatA:AV->Bool
 |.agg cs=>cs.all AV.flat1
 |x=>x.flat1
def AV.flat:AV->Bool
 |.tup cs=>cs.all AV.flatA
 |x=>x.flatA
def aTs(r:AV)(hs:List Obj):Bool:=
 match hs with
 |[]=>r.flat
 |_::_=>true
def aBZ(n:Nat)(h:Hp)(r:AV)(hs:List Obj)(K:AV->Nat->Hp->Prop):Prop:=
 match hs with
 |[]=>(match r.flat with
  |true=>K r n h
  |false=>False)
 |[.arr sz xs]=>(match r with
  |.os 0 sz' off len=>Ob (∀x,x∈xs->x.cells.all AV.flat1=true) (K (.os n sz' off len) (n+1) ((n,.arr sz xs)::h))
  |.tup [.os 0 sz' off len,y]=>(match y.flatA with
   |true=>Ob (∀x,x∈xs->x.cells.all AV.flat1=true) (K (.tup [.os n sz' off len,y]) (n+1) ((n,.arr sz xs)::h))
   |false=>False)
  |_=>False)
 |[.box (c::cs)]=>(match r with
  |.op 0 off=>(match(c::cs).all AV.flat1 with
   |true=>K (.op n off) (n+1) ((n,.box (c::cs))::h)
   |false=>False)
  |_=>False)
 |_=>False
def rO(sz:Nat):Nat->List AV->List AV
 |0,_=>[]
 |k+1,cs=>.agg (cs.take sz)::rO sz k (cs.drop sz)
def flatK(h:Hp)(X:AV)(K:Hp->Prop):Prop:=
 match X with
 |.os id sz _ len=>(match get h id with
  |some (.box cs)=>(match Gj id (mY cs)with
   |false=>Q3 h cs fun ds=>(match Nat.beq ds.length (len*sz)&&ds.all AV.pure1 with
    |true=>Dz (rO sz len ds) fun xs=>oW (dels (del h id) (mY cs)) fun h'=>K ((id,.arr sz xs)::h')
    |false=>False)
   |true=>False)
  |_=>K h)
 |_=>K h
def Ly(b:Bool)(h:Hp):List AV->(Hp->Prop)->Prop
 |[],K=>K h
 |x::xs,K=>match b with
  |false=>K h
  |true=>flatK h x fun h1=>Ly true h1 xs K
def Z7(P:Program)(own lend:FuncId->Bool)(n:Nat)(h:Hp)(F:AV)(args:List AV)(K:AV->Nat->Hp->Prop):Prop:=
 match F with
 |.fn (.func f) first cap=>(match own f with
  |false=>Ly (lend f) h ((first++(args++cap)).flatMap AV.cells) fun h1=>Wd h1 (first++(args++cap)) fun all=>(match(agL all).all AV.noref with
   |true=>Dz (agL all) fun all=>ACall P f all [] fun r hs=>(match lend f&&aTs r hs with
    |true=>aBZ n h r hs K
    |false=>match hs with
     |[]=>oW (dels h1 (oY (first++(args++cap)))) fun h'=>K r n h'
     |_::_=>False)
   |false=>False)
  |true=>Dz (first++(args++cap)) fun all0=>aPx h all0 fun ids=>(match sP h ids with
   |some objs=>Dz (R8 (inN ids) all0) fun all=>rK (inN ids) objs fun objs'=>ACall P f all objs' fun r hs=>(match Nat.ble objs.length hs.length with
    |true=>rK (wE ids n) hs fun hs'=>oW (pL ids hs' n (dels h ids)) fun h'=>aBm (aIH (wE ids n) r) fun r'=>nB (n+(hs.length-objs.length)) fun n'=>K r' n' h'
    |false=>False)
   |none=>False))
 |_=>False
section
variable {P:Program} {E:Nat->Prop} {w:World} {ι:Inj} {n:Nat} {h:Hp}
theorem R9{ρ:Nat->Option Nat}{ι':Inj}(hρ:∀id j p,ρ id=some j->ι id=some p->ι' j=some p){x:AV}{v:Value}(hx:Rel E w ι x v):Rel E w ι' (aPD ρ x) v:=by
 cases x with
 |agg cs=>
  cases hx with
  |agg _ c hs h=>
   have:=Eo hρ (⟨hs,h⟩:RL E w ι cs c);exact .agg _ _ this.1 this.2
 |fn f a b=>
  cases hx with
  |fn _ _ _ F C hF hC h1 h2=>
   have t1:=Eo hρ (⟨hF,h1⟩:RL E w ι a F);have t2:=Eo hρ (⟨hC,h2⟩:RL E w ι b C);exact .fn f _ _ _ _ t1.1 t2.1 t1.2 t2.2
 |_=>exact J0 hρ hx
theorem Fy{ρ:Nat->Option Nat}{ι':Inj}(hρ:∀id j p,ρ id=some j->ι id=some p->ι' j=some p):∀{xs:List AV} {c:Array Value},RL E w ι xs c->RL E w ι' (R8 ρ xs) c
 |[],c,hx=>by cases hx.nil;exact oZ
 |x::xs,c,hx=>by
  obtain⟨v,vs,rfl,h1,h2⟩:=hx.head;exact RL.cons (R9 hρ h1) (Fy hρ h2)
theorem J3{ρ:Nat->Option Nat}{ι':Inj}(hρ:∀id j p,ρ id=some j->ι id=some p->ι' j=some p){x:AV}{v:Value}(hx:Rel E w ι x v):Rel E w ι' (aIH ρ x) v:=by
 cases x with
 |tup cs=>
  cases hx with
  |tup _ c hs h=>
   have:=Fy hρ (⟨hs,h⟩:RL E w ι cs c);exact .tup _ _ this.1 this.2
 |_=>exact R9 hρ hx
theorem elemN_spec:∀{l:List Nat} {i:Nat},Gj i l=true↔i∈l
 |[],i=>by simp[Gj]
 |j::l,i=>by
  simp only[Gj];cases hb:Nat.beq j i with
  |true=>have:=aX hb;subst this;simp
  |false=>
   have hne:i≠j:=fun e=>by subst e;rw[qQ]at hb;cases hb
   simp only[elemN_spec,aV,hne,false_or]
theorem nR:∀{l:List Nat} {os:List Obj},sP h l=some os->l.length=os.length/\∀(j:Nat) id o,l[j]? =some id->os[j]? =some o->get h id=some o
 |[],os,hq=>by simp only[sP,bQ]at hq;subst hq;exact⟨rfl,fun j id o h=>by simp at h⟩
 |i::l,os,hq=>by
  simp only[sP]at hq;split at hq
  ·rename_i o os' ho hos;cases hq;obtain⟨h1,h2⟩:=nR hos;refine⟨by simp[h1],fun j id o' hj hj'=>?_⟩;cases j with
   |zero=>simp at hj hj';subst hj;subst hj';exact ho
   |succ j=>exact h2 j id o' (by simpa using hj) (by simpa using hj')
  ·cases hq
theorem oU:∀(r l:List Nat),l.Nodup->(tT l r).Nodup
 |[],l,h=>h
 |i::r,l,h=>by
  simp only[tT];cases hb:Gj i l with
  |true=>exact oU r l h
  |false=>
   refine oU r _ ?_;rw[eK];refine⟨h,by simp,fun a ha b hb'=>?_⟩;simp at hb';subst hb'
   rintro rfl
   rw[elemN_spec.2 ha]at hb;cases hb
theorem Dn(h:Hp):∀(k:Nat) (l:List Nat),l.Nodup->(Ff h k l).Nodup
 |0,l,hl=>hl
 |k+1,l,hl=>by
  simp only[Ff];split
  ·exact hl
  ·exact Dn h k _ (oU _ _ hl)
theorem Oy(h:Hp)(all:List AV):(Jw h all).Nodup:=Dn h 4 _ (oU _ _ zx)
theorem Rel.flat1{E2:Nat->Prop}{w2:World}{ι2:Inj}{x:AV}{v:Value}(hx:Rel E w ι x v)(hn:x.flat1=true):Rel E2 w2 ι2 x v:=by
 cases hx with
 |v=>exact .v _
 |sb b=>exact .sb b
 |nils=>exact .nils
 |lnil a c=>exact .lnil a c
 |lst xs b off n cap sz hE hb hnn hcap hz g hg h=>
  cases xs with
  |nil=>simp only[aG]at hnn;subst hnn;exact .lnil _ _
  |cons _ _=>simp[AV.flat1]at hn
 |junk=>exact .junk _
 |_=>simp[AV.flat1]at hn
theorem Rel.flatA{E2:Nat->Prop}{w2:World}{ι2:Inj}{x:AV}{v:Value}(hx:Rel E w ι x v)(hn:x.flatA=true):Rel E2 w2 ι2 x v:=by
 cases x with
 |agg cs=>
  cases hx with
  |agg _ c hs h=>
   simp only[AV.flatA,bP]at hn;exact .agg _ _ hs (fun i x y h1 h2=>(h i x y h1 h2).flat1 (hn x (aI h1)))
 |_=>exact Rel.flat1 hx hn
theorem Rel.flat{E2:Nat->Prop}{w2:World}{ι2:Inj}{x:AV}{v:Value}(hx:Rel E w ι x v)(hn:x.flat=true):Rel E2 w2 ι2 x v:=by
 cases x with
 |tup cs=>
  cases hx with
  |tup _ c hs h=>
   simp only[AV.flat,bP]at hn;exact .tup _ _ hs (fun i x y h1 h2=>(h i x y h1 h2).flatA (hn x (aI h1)))
 |_=>exact Rel.flatA hx hn
theorem Sa{n:Nat}{h:Hp}(r:Rep ι E w n h){id:Nat}{cs:List AV}(hg:get h id=some (.box cs))(hid:id∉mY cs){K:List AV->Prop}(hq:Q3 h cs K):
  ∃ds E',K ds/\Rep ι E' w n ((id,.box ds)::dels (del h id) (mY cs))/\Ext ι h E w ι ((id,.box ds)::dels (del h id) (mY cs)) E' w:=by
 obtain⟨b,base,h1,h2,h3,h4⟩:=r.obj id _ hg;have hrl:RL E w ι cs ((List.range cs.length).map fun i=>(w.cell? ⟨b,base+i,none⟩).getD default).toArray:=by
  refine⟨by simp,fun i x y hx hy=>?_⟩;have hi:=(aP.1 hx).1;obtain⟨u,hu,_,hr⟩:=h4 i x hx;simp[eR hi,hu]at hy;subst hy;exact hr
 obtain⟨ds,g1,g2,g3⟩:=sK r (S:=fun x=>x∈mY cs) hrl (fun _ h=>h) hq;obtain⟨r1,x1⟩:=Em r (fun x=>x∈mY cs) (Sub.dels (mY cs)) (fun i o hi hm=>by rw[pK,aH hm]at hi;cases hi);have hget:∀i,get ((id,.box ds)::dels (del h id) (mY cs)) i=if id=i then some (.box ds)else get (dels h (mY cs)) i:=by
  intro i;rw[iQ];by_cases hi:id=i
  ·rw[aH hi,aH hi]
  ·rw[aF hi,aF hi,pK,pK,kI,aF hi]
 have hidr:get (dels h (mY cs)) id=some (.box cs):=by rw[pK,aF hid];exact hg
 have hsome:∀i o,get ((id,.box ds)::dels (del h id) (mY cs)) i=some o->∃o',get (dels h (mY cs)) i=some o':=by
  intro i o hi;rw[hget]at hi;split at hi
  ·rename_i e;subst e;exact⟨_,hidr⟩
  ·exact⟨o,hi⟩
 have hlen:ds.length=cs.length:=by have:=g1.1;simpa using this
 refine⟨ds,_,g2,⟨r1.fresh,fun i o hi=>?_,fun i i' o o' b1 base1 base2 k1 k2=>?_,r1.bound,r1.glob⟩,x1.trans ⟨rfl,rfl,rfl,aK _,fun _ _ h=>h,fun _ _ _=>⟨rfl,Iff.rfl⟩,fun b1 _ hO=>?_,fun _ h=>h,fun _ _=>rfl,aK _⟩⟩
 ·rw[hget]at hi;split at hi
  ·rename_i e;subst e;cases hi;refine⟨b,base,h1,r1.own_E ⟨id,_,base,hidr,h1⟩,h3,fun i c hc=>?_⟩;have hil:i<cs.length:=by rw[<-hlen];exact(aP.1 hc).1
   obtain⟨u,hu,hf,_⟩:=h4 i _ (aE hil);exact⟨u,hu,hf,g1.2 i c u hc (by simp[eR hil,hu])⟩
  ·exact r1.obj i o hi
 ·obtain⟨p,hp⟩:=hsome i o k1;obtain⟨q,hq'⟩:=hsome i' o' k2;exact r1.sep i i' p q b1 base1 base2 hp hq'
 ·obtain⟨i,o,base1,k1,k2⟩:=hO;obtain⟨p,hp⟩:=hsome i o k1;exact⟨i,p,base1,hp,k2⟩
theorem zF{sz:Nat}:∀(k:Nat) (cs:List AV) {i:Nat} {x:AV},(rO sz k cs)[i]? =some x->i<k/\x=.agg ((cs.drop (i*sz)).take sz)
 |0,cs,i,x,h=>by simp[rO]at h
 |k+1,cs,0,x,h=>by
  simp only[rO,eP,bQ]at h;exact⟨by omega,by rw[<-h];simp⟩
 |k+1,cs,i+1,x,h=>by
  simp only[rO,List.getElem?_cons_succ]at h;obtain⟨h1,h2⟩:=zF k _ h;refine⟨by omega,?_⟩;rw[h2,List.drop_drop,cF,fT,Nat.add_comm]
theorem aII{n:Nat}{h:Hp}{id sz len:Nat}{ds:List AV}(r:Rep ι E w n ((id,.box ds)::h))(hl:ds.length=len*sz)(hp:ds.all AV.pure1=true):
  Rep ι E w n ((id,.arr sz (rO sz len ds))::h)/\Ext ι ((id,.box ds)::h) E w ι ((id,.arr sz (rO sz len ds))::h) E w:=by
 have hsome:∀{i o},get ((id,Vm.Obj.arr sz (rO sz len ds))::h) i=some o->∃o',get ((id,Vm.Obj.box ds)::h) i=some o':=by
  intro i o hi;rw[iQ]at hi⊢;split at hi
  ·rename_i e;exact⟨_,aH e⟩
  ·rename_i e;exact⟨o,by rw[aF e];exact hi⟩
 obtain⟨b,base,h1,h2,h3,h4⟩:=r.obj id (.box ds) (by rw[iQ,aH rfl]);refine⟨⟨r.fresh,fun i o hi=>?_,fun i i' o o' b base base' k1 k2 k3 k4=>?_,r.bound,r.glob⟩,⟨rfl,rfl,rfl,aK _,fun _ _ h=>h,fun _ _ _=>⟨rfl,Iff.rfl⟩,fun b _ ⟨i,o,base,g1,g2⟩=>?_,fun _ h=>h,fun _ _=>rfl,aK _⟩⟩
 ·rw[iQ]at hi;split at hi
  ·rename_i e;subst e;cases hi;refine .inr ⟨b,base,h1,h2,h3,fun i x hx=>?_,fun i x j c hx hc=>?_⟩
   ·obtain⟨q1,q2⟩:=zF len ds hx;subst q2;have:(i+1)*sz<=len*sz:=bZ _ q1;rw[cF]at this;simp only[AV.cells,aZ,cQ];omega
   ·obtain⟨q1,q2⟩:=zF len ds hx;subst q2;simp only[AV.cells]at hc;rw[cW]at hc;split at hc;case isFalse=>cases hc
    rw[cD]at hc;obtain⟨u,u1,u2,u3⟩:=h4 _ c hc;rw[bP]at hp;exact⟨u,by rw[cE];exact u1,by rw[cE];exact u2,u3.pure1 (hp c (aI hc))⟩
  ·rename_i e;exact r.obj i o (by rw[iQ,aF e];exact hi)
 ·obtain⟨_,q1⟩:=hsome k1;obtain⟨_,q2⟩:=hsome k2;exact r.sep _ _ _ _ _ _ _ q1 q2 k3 k4
 ·obtain⟨o',q⟩:=hsome g1;exact⟨i,o',base,q,g2⟩
theorem wL{n:Nat}{h:Hp}(r:Rep ι E w n h){X:AV}{K:Hp->Prop}(hq:flatK h X K):∃h1 E1,K h1/\Rep ι E1 w n h1/\Ext ι h E w ι h1 E1 w:=by
 unfold flatK at hq;simp only[wM,mZ]at hq;split at hq;case h_2=>exact⟨h,E,hq,r,Ext.refl⟩
 rename_i id sz off len;split at hq;case h_2=>exact⟨h,E,hq,r,Ext.refl⟩
 rename_i cs hg;split at hq;case h_2=>exact hq.elim
 rename_i he;obtain⟨ds,E',k1,k2,k3⟩:=Sa r hg (fun hm=>by rw[elemN_spec.2 hm]at he;cases he) hq;split at k1;case h_2=>exact k1.elim
 rename_i hb;simp only[aJ]at hb;obtain⟨r2,x2⟩:=aII (sz:=sz) (len:=len) k2 (aX hb.1) hb.2;exact⟨_,E',k1,r2,k3.trans x2⟩
theorem Gp:∀(b:Bool) (xs:List AV) {E:Nat->Prop} {h:Hp} {K:Hp->Prop},Rep ι E w n h->Ly b h xs K->∃h1 E1,K h1/\Rep ι E1 w n h1/\Ext ι h E w ι h1 E1 w
 |_,[],E,h,K,r,hq=>⟨h,E,by simpa[Ly]using hq,r,Ext.refl⟩
 |false,x::xs,E,h,K,r,hq=>⟨h,E,by simpa[Ly]using hq,r,Ext.refl⟩
 |true,x::xs,E,h,K,r,hq=>by
  simp only[Ly]at hq;obtain⟨h1,E1,k1,r1,x1⟩:=wL r hq;obtain⟨h2,E2,k2,r2,x2⟩:=Gp true xs r1 k1;exact⟨h2,E2,k2,r2,x1.trans x2⟩
theorem aTT{E1:Nat->Prop}{h1:Hp}(r:Rep ι E w n h)(r1:Rep ι E1 w n h1)(x:Ext ι h E w ι h1 E1 w):∀b,E1 b->E b:=fun b hb=>by
 by_cases ho:Own ι h b
 ·exact r.own_E ho
 ·exact(x.old b (r1.bound b hb) ho).2.1 hb
theorem Yd(r:Rep ι E w n h){E2:Nat->Prop}(hE2:∀b,E2 b->E b){E':Nat->Prop}{w':World}{ι':Inj}{h':Hp}(x:Ext jO (iV 0 []) E2 w ι' h' E' w')(hb':∀b,E' b->b<w'.heap.size):
  Rep ι (fun b=>E' b\/(b<w.heap.size/\E b)) w' n h/\Ext ι h E w ι h (fun b=>E' b\/(b<w.heap.size/\E b)) w':=by
 have hno:∀b,¬Own jO (iV 0 []) b:=fun b ⟨id,o,base,hg,_⟩=>by simp[iV,get]at hg
 have hiff:∀b,b<w.heap.size->((E' b\/(b<w.heap.size/\E b))↔E b):=fun b hb=>by
  constructor
  ·rintro(h1|h1)
   ·exact hE2 b ((x.old b hb (hno b)).2.1 h1)
   ·exact h1.2
  ·intro h1;exact .inr ⟨hb,h1⟩
 have hk:Keeps E w (fun b=>E' b\/(b<w.heap.size/\E b)) w':=⟨x.size,fun b hb hE=>⟨(x.old b hb (hno b)).1,fun h1=>hE ((hiff b hb).1 h1)⟩,x.some,fun a ha=>x.mark a (nP ha)⟩
 refine⟨⟨r.fresh,fun id o hg=>(r.obj id o hg).keep hk (fun _ _ h=>h) (fun b base hb=>(hiff b (oI r hg hb)).2 (r.own_E ⟨id,o,base,hg,hb⟩)) (fun b base hb=>(x.old b (oI r hg hb) (hno b)).1),r.sep,fun b hb=>?_,r.glob.keep hk⟩,
  ⟨x.os,x.tape,x.output,x.size,fun _ _ h=>h,fun b hb _=>⟨(x.old b hb (hno b)).1,hiff b hb⟩,fun _ _ h=>h,x.some,x.mark,x.drawn⟩⟩
 rcases hb with hb|hb
 ·exact hb' b hb
 ·exact cO hb.1 x.size
def Zo(P:Program)(E:Nat->Prop)(w:World)(ι:Inj)(h:Hp)(own:FuncId->Bool)(g:AV)(T:List Nat)(s:Sem Next)(K:AV->Nat->Hp->Prop):Prop:=
 ∃f first cap vals,g=.fn (.func f) first cap/\s.run P w=.ok (.enter f vals) w/\Calls P f vals w fun e w'=>(∃v x n' h' ι' E',e=.returned v/\K x n' h'/\Rel E' w' ι' x v/\Rep ι' E' w' n' h'/\Ext ι h E w ι' h' E' w')/\(own f=false->Same w w')/\
  (∀b,b<w.heap.size->(∀id,id∈T->∀base,ι id≠some (some (b,base)))->w'.heap[b]? =w.heap[b]?)
def Pn(h:Hp)(F:AV)(args:List AV):List Nat:=
 match F with
 |.fn _ first cap=>Jw h (first++(args++cap))
 |_=>[]
theorem RL.append{xs ys:List AV}{a b:Array Value}(h1:RL E w ι xs a)(h2:RL E w ι ys b):RL E w ι (xs++ys) (a++b):=by
 refine⟨by simp[h1.1,h2.1],fun i x y hx hy=>?_⟩;by_cases hi:i<xs.length
 ·rw[bE hi]at hx;rw[eI (by rw[<-h1.1];exact hi)]at hy;exact h1.2 i x y hx hy
 ·rw[bH zo]at hx;rw[Array.getElem?_append_right (by rw[<-h1.1];omega),<-h1.1]at hy;exact h2.2 _ x y hx hy
theorem Ue(r:Rep ι E w n h){E2:Nat->Prop}(hE2:∀b,E2 b->E b){e:Ending}{v:Value}(he:e=.returned v){rv:AV}{hs':List Obj}{ι':Inj}{E':Nat->Prop}{w':World}
  (r':Rep ι' E' w' hs'.length (iV 0 hs'))(hr:Rel E' w' ι' rv v)(x':Ext jO (iV 0 []) E2 w ι' (iV 0 hs') E' w'){K:AV->Nat->Hp->Prop}(hk:aBZ n h rv hs' K):
  ∃v x n' h' ι' E',e=.returned v/\K x n' h'/\Rel E' w' ι' x v/\Rep ι' E' w' n' h'/\Ext ι h E w ι' h' E' w':=by
 obtain⟨rb,xb⟩:=Yd r hE2 x' r'.bound
 -- one object that is new
 have one:∀(o:Obj),wR o=false->hs'=[o]->(∀(E2:Nat->Prop) (ι2:Inj),(∀b base,ι' 0=some (some (b,base))->E2 b)->ι2 n=ι' 0->ORel E2 w' ι2 n o)->
   Rep (ι.set n (match ι' 0 with|some p=>p|none=>none)) (fun b=>E' b\/(b<w.heap.size/\E b)) w' (n+1) ((n,o)::h)/\Ext ι h E w (ι.set n (match ι' 0 with|some p=>p|none=>none)) ((n,o)::h) (fun b=>E' b\/(b<w.heap.size/\E b)) w'/\
    (ι.set n (match ι' 0 with|some p=>p|none=>none)) n=ι' 0:=by
  intro o hgn ho hor;subst ho;have hg0:get (iV 0 [o]) 0=some o:=(oL [o] 0 0 o).2 ⟨aK _,rfl,hgn⟩;have h0:∃p,ι' 0=some p:=by
   have:=r'.obj 0 o hg0;cases o with
   |box cs=>obtain⟨b,base,h1,_⟩:=this;exact⟨_,h1⟩
   |spc s=>obtain⟨b,base,h1,_⟩:=this;exact⟨_,h1⟩
   |arr sz xs=>rcases this with⟨h1,_⟩|⟨b,base,h1,_⟩<;>exact⟨_,h1⟩
  obtain⟨p,hp⟩:=h0;have hset:(ι.set n p) n=ι' 0:=by rw[Inj.set_same,hp]
  have hx:=Inj.set_ext r p;have hnew:∀b base,ι' 0=some (some (b,base))->w.heap.size<=b/\E' b:=fun b base hb=>by
   have hO:Own ι' (iV 0 [o]) b:=⟨0,o,base,hg0,hb⟩
   refine⟨?_,r'.own_E hO⟩;rcases aC b w.heap.size with hlt|hge
   ·obtain⟨id,o',base',hg,_⟩:=x'.own b hlt hO;simp[iV,get]at hg
   ·exact hge
  have hne:∀{id o},get h id=some o->id≠n:=fun hg e=>by subst e;rw[r.get_n]at hg;cases hg
  have hsame:∀{id},id≠n->(ι.set n p) id=ι id:=fun hi=>by simp[Inj.set,hi]
  simp only[hp];refine⟨⟨fun id hid=>?_,fun id ob hg=>?_,fun id id' ob ob' b base base' h1 h2 h3 h4=>?_,rb.bound,rb.glob⟩,⟨xb.os,xb.tape,xb.output,xb.size,hx,fun b hb hn=>xb.old b hb hn,fun b hb hO=>?_,xb.some,xb.mark,xb.drawn⟩,hset.trans hp⟩
  ·rw[hsame zo];exact r.fresh id zo
  ·rw[iQ]at hg;split at hg
   ·rename_i e;subst e;cases hg;exact hor _ _ (fun b base hb=>.inl (hnew b base hb).2) hset
   ·rename_i e;have hk0:Keeps (fun b=>E' b\/(b<w.heap.size/\E b)) w' (fun b=>E' b\/(b<w.heap.size/\E b)) w':=⟨aK _,fun b _ hE=>⟨rfl,hE⟩,fun _ h=>h,fun _ _=>rfl⟩
    exact(rb.obj id ob hg).keep hk0 hx (fun b base hb=>rb.own_E ⟨id,ob,base,hg,hb⟩) (fun _ _ _=>rfl)
  ·rw[iQ]at h1 h2;split at h1<;>split at h2
   ·omega
   ·rename_i e1 e2;subst e1;rw[hset]at h3;rw[hsame (hne h2)]at h4;have:=(hnew _ _ h3).1;have:=oI r h2 h4;omega
   ·rename_i e1 e2;subst e2;rw[hset]at h4;rw[hsame (hne h1)]at h3;have:=(hnew _ _ h4).1;have:=oI r h1 h3;omega
   ·rw[hsame (hne h1)]at h3;rw[hsame (hne h2)]at h4;exact r.sep _ _ _ _ _ _ _ h1 h2 h3 h4
  ·obtain⟨id,ob,base,hg,hb'⟩:=hO;rw[iQ]at hg;split at hg
   ·rename_i e;subst e;rw[hset]at hb';have:=(hnew _ _ hb').1;omega
   ·rw[hsame (hne hg)]at hb';exact⟨id,ob,base,hg,hb'⟩
 unfold aBZ at hk;split at hk
 ·split at hk;case h_2=>exact hk.elim
  rename_i hf;exact⟨v,rv,n,h,ι,_,he,hk,hr.flat hf,rb,xb⟩
 ·rename_i sz xs;have two:(∀x,x∈xs->x.cells.all AV.flat1=true)->_:=fun hfl=>one (.arr sz xs) rfl rfl (fun E2 ι2 hE2 hι2=>by
   rcases r'.obj 0 _ (rfl:get (iV 0 [.arr sz xs]) 0=_)with⟨h2,h3⟩|⟨b,base,h2,h3,h4,h5,h6⟩
   ·exact .inl ⟨by rw[hι2];exact h2,h3⟩
   ·refine .inr ⟨b,base,by rw[hι2];exact h2,hE2 b base h2,h4,h5,fun i x j c hx hc=>?_⟩;obtain⟨u,a1,a2,a3⟩:=h6 i x j c hx hc;have:=hfl x (aI hx);rw[bP]at this;exact⟨u,a1,a2,a3.flat1 (this c (aI hc))⟩)
  split at hk;case h_3=>exact hk.elim
  ·rename_i sz' off len;obtain⟨hfl,hk⟩:=hk.elim;obtain⟨q1,q2,q3⟩:=two hfl;refine⟨v,_,_,_,_,_,he,hk,?_,q1,q2⟩;cases hr with
   |osz _ _ _ a=>exact .osz _ _ _ _
   |os _ _ _ _ b base cap hι hc hcell=>exact .os n sz' off len b base cap (by rw[q3];exact hι) hc hcell
  ·rename_i sz' off len y;split at hk;case h_2=>exact hk.elim
   rename_i hy;obtain⟨hfl,hk⟩:=hk.elim;obtain⟨q1,q2,q3⟩:=two hfl;refine⟨v,_,_,_,_,_,he,hk,?_,q1,q2⟩;cases hr with
   |tup _ c hs h=>
    refine .tup _ c hs fun i x u hx hu=>?_;rcases i with _|_|i
    ·have hr:=h 0 _ _ rfl hu;cases hx;cases hr with
     |osz _ _ _ a=>exact .osz _ _ _ _
     |os _ _ _ _ b base cap hι hc hcell=>exact .os n sz' off len b base cap (by rw[q3];exact hι) hc hcell
    ·have hr:=h 1 _ _ rfl hu;cases hx;exact hr.flatA hy
    ·cases hx
 ·split at hk;case h_2=>exact hk.elim
  rename_i c0 cs _ off;split at hk;case h_2=>exact hk.elim
  rename_i hfl;obtain⟨q1,q2,q3⟩:=one (.box (c0::cs)) rfl rfl (fun E2 ι2 hE2 hι2=>by
   obtain⟨b,base,h2,h3,h4,h5⟩:=r'.obj 0 _ (rfl:get (iV 0 [.box (c0::cs)]) 0=_);refine⟨b,base,by rw[hι2];exact h2,hE2 b base h2,h4,fun i c hc=>?_⟩;obtain⟨u,a1,a2,a3⟩:=h5 i c hc;rw[bP]at hfl;exact⟨u,a1,a2,a3.flat1 (hfl c (aI hc))⟩)
  refine⟨v,_,_,_,_,_,he,hk,?_,q1,q2⟩;cases hr with
  |op _ _ b base hι=>exact .op n off b base (by rw[q3];exact hι)
 ·exact hk.elim
theorem P9(r:Rep ι E w n h){own lend:FuncId->Bool}{ev:Operand->AV}{ρ:Operand->Value}(hev:∀x,Rel E w ι (ev x) (ρ x)){o:Oper}{c:Call}{fo:Operand}(ho:o.op=.call c)(hc:c.callee=.value fo){K:AV->Nat->Hp->Prop}
  (hq:Z7 P own lend n h (ev fo) (c.args.toList.map ev) K):Zo P E w ι h own (ev fo) (Pn h (ev fo) (c.args.toList.map ev)) (execOp ρ o) K:=by
 unfold Z7 at hq;simp only[mZ,nA,N9,mJ,aIx,wM,oN]at hq;have hF:=hev fo;split at hq;case h_2=>exact hq.elim
 rename_i f first cap he
 rw[he]at hF;generalize hfv:ρ fo=fv at hF;cases hF with
 |fn _ _ _ F C h1 h2 h3 h4=>
  have hargs:=O8 hev c.args;have hall:RL E w ι (first++(c.args.toList.map ev++cap)) (F++(c.args.map ρ++C)):=RL.append ⟨h1,h3⟩ (RL.append hargs ⟨h2,h4⟩);have hrun:Kq P f=true->(execOp ρ o).run P w=.ok (.enter f (F++(c.args.map ρ++C))) w:=by
   intro hok;unfold Kq at hok;split at hok
   ·rename_i fn hfn;simp only[aJ,eA]at hok;obtain⟨_,hb,hnm⟩:=hok;have hb':fn.body.isNone=false:=by cases hfb:fn.body<;>simp_all
    simp only[execOp,ho,resolve,hc,hfv,Deferred.ofValue,Sem.run_bind,Sem.run_pure,Result.andThen_ok,invoke,callFunc,run_program,hfn,hnm,hb',bT,if_false,fZ]
   ·cases hok
  split at hq
  ·obtain⟨hl,El,hq,rl,xl⟩:=Gp _ _ r hq;have hkl:Keeps E w El w:=xl.keeps r;have hall:RL El w ι (first++(c.args.toList.map ev++cap)) (F++(c.args.map ρ++C)):=⟨hall.1,fun i x y hx hy=>(hall.2 i x y hx hy).keep hkl (fun _ _ h=>h)⟩
   obtain⟨all,a1,a2,a3⟩:=wO rl (S:=fun id=>id∈oY (first++(c.args.toList.map ev++cap))) hall (fun _ h=>h) hq;split at a2;case h_2=>exact a2.elim
   rename_i hnr;obtain⟨hok,hcall⟩:=a2.elim;obtain⟨r1,x1⟩:=Em rl (fun id=>id∈oY (first++(c.args.toList.map ev++cap))) (Sub.dels (oY (first++(c.args.toList.map ev++cap)))) (fun id o hg hm=>by rw[pK,aH hm]at hg;cases hg);have r0:Rep jO _ w ([]:List Obj).length (iV 0 []):=⟨fun _ _=>rfl,fun id o hg=>by simp[iV,get]at hg,fun id id' o o' b base base' hg=>by simp[iV,get]at hg,r1.bound,r1.glob⟩
   refine⟨f,first,cap,_,he,hrun hok,(hcall jO _ w _ r0 (a1.agL.noref hnr)).mono ?_⟩
   rintro e w' ⟨v,rv,hs',ι',E',rfl,hk,r',hr,x'⟩
   have hno:∀b,¬Own jO (iV 0 []) b:=fun b ⟨id,o,base,hg,_⟩=>by simp[iV,get]at hg
   refine⟨?_,fun _ b hb=>(x'.old b hb (hno b)).1,fun b hb _=>(x'.old b hb (hno b)).1⟩;split at hk
   ·exact Ue r (fun b hb=>aTT r rl xl b hb.1) rfl r' hr x' hk
   cases hs' with
   |cons _ _=>exact hk.elim
   |nil=>
    have hι':ι'=jO:=funext fun id=>r'.fresh id (aO _);subst hι';have hk2:Keeps _ w E' w':=x'.keeps r0;have rr:Rep ι E' w' n (dels hl (oY (first++(c.args.toList.map ev++cap)))):=by
     refine⟨r1.fresh,fun id o hg=>(r1.obj id o hg).keep hk2 (fun _ _ h=>h) (fun b base hb=>?_) (fun b base hb=>?_),r1.sep,r'.bound,r'.glob⟩
     ·exact(x'.old b (oI r1 hg hb) (hno b)).2.2 (r1.own_E ⟨id,o,base,hg,hb⟩)
     ·exact(x'.old b (oI r1 hg hb) (hno b)).1
    refine⟨v,rv,n,_,ι,E',rfl,hk,hr.up,rr,(xl.trans x1).trans ⟨x'.os,x'.tape,x'.output,x'.size,fun _ _ h=>h,fun b hb _=>x'.old b hb (hno b),fun _ _ h=>h,x'.some,x'.mark,x'.drawn⟩⟩
  ·rename_i hown;split at hq;case h_2=>exact hq.elim
   rename_i objs hobjs;obtain⟨hok,hcall⟩:=hq.elim;obtain⟨hl,hget⟩:=nR hobjs;have hnd:=Oy h (first++(c.args.toList.map ev++cap));have hT:Pn h (ev fo) (c.args.toList.map ev)=Jw h (first++(c.args.toList.map ev++cap)):=by rw[he];rfl
   rw[hT];clear hT;generalize Jw h (first++(c.args.toList.map ev++cap))=ids at*;have r0:=Ig r hnd hl fun j id o h1 h2 _=>hget j id o h1 h2;have hren:RL E w (jE ι ids) (R8 (inN ids) (first++(c.args.toList.map ev++cap))) (F++(c.args.map ρ++C)):=by
    refine Fy (fun id j p hj hp=>?_) hall;obtain⟨_,h5⟩:=vC hj;simp only[eN]at h5;simp[jE,h5,hp]
   refine⟨f,first,cap,_,he,hrun hok,(hcall _ E w _ r0 hren).mono ?_⟩
   rintro e w' ⟨v,rv,hs',ι',E',rfl,hk,r',hr,x'⟩
   refine⟨?_,(fun hf=>by rw[hown]at hf;cases hf),fun b hb hT=>(x'.old b hb fun hO=>?_).1⟩;case refine_2=>
    obtain⟨j,o,base,hg,hj⟩:=hO;simp only[jE]at hj;split at hj
    ·rename_i id hid;exact hT id (aI hid) base hj
    ·cases hj
   split at hk;case h_2=>exact hk.elim
   rename_i hble;have hble:=bY hble;obtain⟨rr,xx,hback⟩:=Yk r hnd hl hget zo r' x';rw[<-hl]at hk;exact⟨v,_,_,_,_,E',rfl,hk,J3 hback hr,rr,xx⟩
end
end Go.Vm
