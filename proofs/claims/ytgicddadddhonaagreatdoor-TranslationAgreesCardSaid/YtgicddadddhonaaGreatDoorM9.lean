/- Lemmas. -/
import Derived.OpenShut
import Derived.Test.YtgicddadddhonaaGreatDoorProg
import Derived.Laws.StructEq
import Derived.Test.YtgicddadddhonaaGreatDoorM8
set_option linter.unusedVariables false
set_option linter.unusedSimpArgs false
set_option maxRecDepth 100000
set_option maxHeartbeats 4000000
noncomputable section
namespace Go.Vm
open Go.ChangeShapes Go.WideShapes
def Ty(P:Program):Nat->TypeId->AV->Prop
 |0,_,_=>False
 |n+1,t,x=>match P.underlying t with
  |some .bool=>∃b,x=.sb b
  |some (.int k)=>∃i,x=.v (.int k i)/\k.min<=i/\i<=k.max
  |some .string=>∃s,x=.v (.string s)/\s.size<=maxLen
  |some (.slice e)=>∃xs,x=.lst xs/\xs.length<=maxLen/\∀y,y∈xs->Ty P n e y
  |some (.struct fs)=>∃ys:List AV,ys.length=fs.size/\x=.agg (ys.flatMap AV.cells)/\∀(i:Nat) f y,fs[i]? =some f->ys[i]? =some y->Ty P n f.type y
  |some (.array m e)=>∃ys:List AV,ys.length=m/\x=.agg (ys.flatMap AV.cells)/\∀y,y∈ys->Ty P n e y
  |_=>False
def oH(P:Program)(tot:Nat):Nat->List Field->Bool
 |off,[]=>decide (off=tot)
 |off,f::fs=>decide (f.offset=off)&&oH P tot (off+P.cellsOf f.type) fs
def Pt(P:Program):Nat->TypeId->Bool
 |0,_=>false
 |n+1,t=>match P.underlying t with
  |some .bool=>true
  |some (.int _)=>true
  |some .string=>true
  |some (.slice e)=>decide (0<P.cellsOf e)&&Pt P n e
  |some (.struct fs)=>oH P (P.cellsOf t) 0 fs.toList&&fs.toList.all fun f=>Pt P n f.type
  |some (.array m e)=>decide (P.cellsOf t=m*P.cellsOf e)&&Pt P n e
  |_=>false
def NoE:Nat->Prop:=fun _=>False
section
variable {H:Type} {enc:TypeId×Value->H} {P:Program} {w:World} {held:Bool}
theorem RL.app{E:Nat->Prop}{ι:Inj}{xs ys:List AV}{qs bs:List Value}(h1:RL E w ι xs qs.toArray)(h2:RL E w ι ys bs.toArray):RL E w ι (xs++ys) (qs++bs).toArray:=by
 have l1:xs.length=qs.length:=by simpa using h1.1
 have l2:ys.length=bs.length:=by simpa using h2.1
 refine⟨by simp[l1,l2],fun i x y hx hy=>?_⟩;have hy:(qs++bs)[i]? =some y:=by simpa using hy
 rcases aD i xs.length with hi|hi
 ·rw[bJ hi]at hx;rw[bJ zo]at hy;exact h1.2 i x y hx (by simpa using hy)
 ·rw[bF hi]at hx;rw[bF zo]at hy;exact h2.2 (i-xs.length) x y hx (by rw[l1];simpa using hy)
theorem RL.one{E:Nat->Prop}{ι:Inj}{x:AV}{v:Value}(h:Rel E w ι x v):RL E w ι [x] [v].toArray:=
 ⟨rfl,fun i a b ha hb=>by
  match i with
  |0=>simp at ha hb;subst ha;subst hb;exact h
  |n+1=>simp at ha⟩
theorem Mq{fs:List Field}{cs:List Value}{tot:Nat}{Q:Field->AV->Prop}:∀{off:Nat},off<=tot->cs.length=tot->oH P tot off fs=true->
  (∀f,f∈fs->∃y,Q f y/\RL NoE w jR y.cells ((cs.drop f.offset).take (P.cellsOf f.type)).toArray)->
  ∃ys:List AV,ys.length=fs.length/\RL NoE w jR (ys.flatMap AV.cells) (cs.drop off).toArray/\∀(i:Nat) f y,fs[i]? =some f->ys[i]? =some y->Q f y:=by
 induction fs with
 |nil=>
  intro off hoff hl hf _;simp only[oH,aL]at hf;refine⟨[],rfl,⟨by simp;omega,fun i x y hx=>by simp at hx⟩,fun i f y hf=>by simp at hf⟩
 |cons f fs ih=>
  intro off hoff hl hf h;simp only[oH,aJ,aL]at hf;obtain⟨h1,h2⟩:=hf;obtain⟨y,q1,q2⟩:=h f zx;have hle:off+P.cellsOf f.type<=tot:=by
   have mono:∀(fs:List Field) (o:Nat),oH P tot o fs=true->o<=tot:=by
    intro fs
    induction fs with
    |nil=>intro o ho;simp only[oH,aL]at ho;omega
    |cons g gs ihg=>
     intro o ho;simp only[oH,aJ,aL]at ho;have:=ihg _ ho.2;omega
   exact mono fs _ h2
  obtain⟨ys,a1,a2,a3⟩:=ih hle hl h2 (fun g hg=>h g (by simp[hg]));refine⟨y::ys,by simp[a1],?_,fun i g z hg hz=>?_⟩
  ·rw[h1]at q2;have e:cs.drop off=(cs.drop off).take (P.cellsOf f.type)++cs.drop (off+P.cellsOf f.type):=by
    rw[<-List.drop_drop,cU]
   rw[e,cS];exact q2.app a2
  ·cases i with
   |zero=>simp at hg hz;subst hg;subst hz;exact q1
   |succ i=>exact a3 i g z (by simpa using hg) (by simpa using hz)
theorem Sj{m n:Nat}{cs:List Value}{Q:AV->Prop}(hl:cs.length=m*n)(h:∀i,i<m->∃y,Q y/\RL NoE w jR y.cells ((cs.drop (i*n)).take n).toArray):
  ∃ys:List AV,ys.length=m/\RL NoE w jR (ys.flatMap AV.cells) cs.toArray/\∀y,y∈ys->Q y:=by
 induction m generalizing cs with
 |zero=>
  have:cs=[]:=dR zo;subst this;exact⟨[],rfl,⟨rfl,fun i x y hx=>by simp at hx⟩,fun y hy=>by simp at hy⟩
 |succ m ih=>
  obtain⟨y,q1,q2⟩:=h 0 zo;obtain⟨ys,a1,a2,a3⟩:=ih (cs:=cs.drop n) (by rw[cH,hl,Nat.succ_mul];omega) (fun i hi=>by
   obtain⟨z,b1,b2⟩:=h (i+1) zo;refine⟨z,b1,?_⟩;rw[List.drop_drop,show n+i*n=(i+1)*n by rw[Nat.succ_mul];omega];exact b2)
  refine⟨y::ys,by simp[a1],?_,fun z hz=>?_⟩
  ·have e:cs=cs.take n++cs.drop n:=(cU _ _).symm;rw[e,cS];simp only[fF,bP]at q2;exact q2.app a2
  ·rcases aZ.1 hz with rfl|hz
   ·exact q1
   ·exact a3 z hz
theorem Gy{n:Nat}{Q:Nat->AV->Prop}(h:∀i,i<n->∃y,Q i y):∃ys:List AV,ys.length=n/\∀(i:Nat) y,ys[i]? =some y->Q i y:=by
 induction n with
 |zero=>exact⟨[],rfl,fun i y hy=>by simp at hy⟩
 |succ n ih=>
  obtain⟨ys,h1,h2⟩:=ih (fun i hi=>h i zo);obtain⟨y,hy⟩:=h n zo;refine⟨ys++[y],by simp[h1],fun i z hz=>?_⟩;rcases aD i ys.length with hi|hi
  ·rw[bJ hi]at hz;exact h2 i z hz
  ·rw[bF hi]at hz;have:i-ys.length=0:=by
    rcases cV (i-ys.length)with h0|h0
    ·exact h0
    ·rw[bS (by simp;omega)]at hz;cases hz
   rw[this]at hz;simp at hz;subst hz;have:i=n:=by omega
   subst this;exact hy
theorem tF:∀(d:Nat) {t:TypeId} {fuel:Nat} {cs:List Value} {x:DataW H×List MemPlace},Pt P d t=true->DataW.trod enc P w 0 (fun _=>true) held fuel t cs=some x->
  ∃a,Ty P d t a/\RL NoE w jR a.cells cs.toArray
 |0,t,fuel,cs,x,ht,_=>by simp[Pt]at ht
 |d+1,t,fuel,cs,x,ht,h=>by
  simp only[Pt]at ht;simp only[Ty];cases hu:P.underlying t with
  |none=>simp[hu]at ht
  |some D=>
   simp only[hu]at ht⊢;cases D with
   |bool=>
    obtain⟨b,rfl,_⟩:=DataW.trod_bool hu h;exact⟨.sb b,⟨b,rfl⟩,RL.one (.sb b)⟩
   |int k=>
    obtain⟨n,rfl,_,hw⟩:=DataW.trod_int hu h;simp only[Lit.wf,aJ,aL]at hw;exact⟨.v (.int k n),⟨n,rfl,hw⟩,RL.one (.v _)⟩
   |string=>
    obtain⟨s,rfl,_,hs⟩:=DataW.trod_string hu h;exact⟨.v (.string s),⟨s,rfl,hs⟩,RL.one (.v _)⟩
   |slice e=>
    simp only[aJ,aL]at ht;rcases DataW.trod_slice hu h with⟨rfl,_⟩|⟨a,len,cap,elems,rest,n,_,rfl,_,hb,hlc,hcm,hel,hget,_,_⟩
    ·exact⟨.lst [],⟨[],rfl,by simp,fun y hy=>by simp at hy⟩,RL.one (.lnil none 0)⟩
    ·have each:∀i,i<len->∃y,Ty P d e y/\∃cs',w.cells? 0 (a.add (i*P.cellsOf e)) (P.cellsOf e)=some cs'/\RL NoE w jR y.cells cs'.toArray:=by
      intro i hi;have hx:=hget i hi;rw[aE (show i<elems.length by omega),cI]at hx;obtain⟨cs',h1,h2⟩:=hx;obtain⟨y,h3,h4⟩:=tF d ht.2 h2;exact⟨y,h3,cs',h1,h4⟩
     obtain⟨ys,l1,l2⟩:=Gy each;refine⟨.lst ys,⟨ys,rfl,by omega,fun y hy=>?_⟩,RL.one ?_⟩
     ·obtain⟨i,hi⟩:=fY hy;exact(l2 i y hi).1
     ·rcases cV len with h0|h0
      ·have:ys=[]:=dR zo;subst this;subst h0;exact .lnil _ _
      ·have hcell:∀(i:Nat) y (j:Nat) c,ys[i]? =some y->y.cells[j]? =some c->∃u,w.cell? ((a.add (i*P.cellsOf e)).add j)=some u/\Rel NoE w jR c u:=by
        intro i y j c hy hc;obtain⟨_,cs',c1,c2⟩:=l2 i y hy;obtain⟨_,c3,c4⟩:=World.cells?_some c1;have hj:j<y.cells.length:=(aP.1 hc).1;have hj':j<cs'.length:=by have:=c2.1;simp at this;omega
        rw[c4 j zo,aE hj'];exact⟨_,rfl,c2.2 j c _ hc (by simp[hj'])⟩
       have hlenc:∀(i:Nat) y,ys[i]? =some y->y.cells.length=P.cellsOf e:=by
        intro i y hy;obtain⟨_,cs',c1,c2⟩:=l2 i y hy;obtain⟨_,c3,c4⟩:=World.cells?_some c1;have:=c2.1;simp at this;omega
       have h00:ys[0]? =some (ys[0]'zo):=aE _;have hc0:((ys[0]'zo).cells)[0]? =some (((ys[0]'zo).cells)[0]'(by rw[hlenc 0 _ h00];exact ht.1)):=aE _;obtain⟨u0,hu0,_⟩:=hcell 0 _ 0 _ h00 hc0;have hs:a.spot=none:=by
        simp only[fF,Addr.add,if_true]at hu0;cases hsp:a.spot with
        |none=>rfl
        |some k=>
         unfold World.cell? at hu0;rw[hsp]at hu0;split at hu0
         ·simp at hu0
         ·cases hu0
       obtain⟨b,off,spot⟩:=a;simp only at hs;subst hs;have hadd:∀i j:Nat,((⟨b,off,none⟩:Addr).add (i*P.cellsOf e)).add j=⟨b,off+i*P.cellsOf e+j,none⟩:=by
        intro i j;simp only[Addr.add];by_cases h1:i*P.cellsOf e=0<;>by_cases h2:j=0<;>simp[h1,h2]
       refine .lst ys b off len cap (P.cellsOf e) (fun hh=>hh) ?_ l1.symm hlc hlenc (fun i j=>(w.cell? ⟨b,off+i*P.cellsOf e+j,none⟩).getD (.bool false)) (fun i y j c hy hc=>?_) (fun i y j c hy hc=>?_)
       ·rw[hadd]at hu0;exact lt_of_cell (a:=⟨b,_,none⟩) (by rw[hu0];rfl)
       ·obtain⟨u,e1,_⟩:=hcell i y j c hy hc;rw[hadd]at e1;rw[e1];rfl
       ·obtain⟨u,e1,e2⟩:=hcell i y j c hy hc;rw[hadd]at e1;simp only[e1,cY];exact e2
   |struct fs=>
    simp only[aJ,bT]at ht;obtain⟨xs,n,_,_,hl,_,hf⟩:=DataW.trod_struct hu h;obtain⟨ys,a1,a2,a3⟩:=Mq (w:=w) (cs:=cs) (Q:=fun f y=>Ty P d f.type y) (aK _) hl ht.1 (fun f hf'=>by
     obtain⟨i,hi⟩:=fY hf';have hi':fs[i]? =some f:=by simpa using hi
     have hlt:i<fs.size:=(eO.1 hi').1;have e1:=hf i f hi';rw[aE (show i<xs.length by omega)]at e1;exact tF d (ht.2 f hf') e1)
    refine⟨.agg (ys.flatMap AV.cells),⟨ys,by simpa using a1,rfl,fun i f y hfi hy=>a3 i f y (by simpa using hfi) hy⟩,?_⟩;simpa[AV.cells]using a2
   |array m e=>
    simp only[aJ,aL]at ht;obtain⟨xs,n,_,_,hl,hlx,hf⟩:=DataW.trod_array hu h;obtain⟨ys,a1,a2,a3⟩:=Sj (w:=w) (cs:=cs) (Q:=fun y=>Ty P d e y) (hl.trans ht.1) (fun i hi=>by
     have e1:=hf i hi;rw[aE (show i<xs.length by omega)]at e1;exact tF d ht.2 e1)
    exact⟨.agg (ys.flatMap AV.cells),⟨ys,a1,rfl,a3⟩,a2⟩
   |_=>simp at ht
theorem U2{d:Nat}{t:TypeId}{v:Value}{x:DataW H}{ps:List MemPlace}{base:Nat}(ht:Pt P d t=true)(hval:Value.okWide P w .any base t v)(h:DataW.Trod enc P w 0 (fun _=>true) held t v x ps):
  ∃a,Ty P d t a/\Rel NoE w jR a v:=by
 obtain⟨fuel,hf⟩:=h;obtain⟨a,h1,h2⟩:=tF d ht hf;refine⟨a,h1,?_⟩;have single:∀{u:Value},v=u->u.cells=#[u]->a.cells=[a]->Rel NoE w jR a v:=by
  rintro u rfl e1 e2
  rw[e1,e2]at h2;exact h2.2 0 a v rfl rfl
 cases d with
 |zero=>exact h1.elim
 |succ d=>
  simp only[Ty]at h1;cases hu:P.underlying t with
  |none=>simp[hu]at h1
  |some D=>
   simp only[hu]at h1;cases D with
   |bool=>
    obtain⟨b,rfl⟩:=h1;obtain⟨b',hv⟩:=okWide_bool hu hval;exact single hv rfl rfl
   |int k=>
    obtain⟨b,rfl,_⟩:=h1;obtain⟨b',hv⟩:=okWide_int hu hval;exact single hv rfl rfl
   |string=>
    obtain⟨b,rfl,_⟩:=h1;obtain⟨b',hv⟩:=okWide_string hu hval;exact single hv rfl rfl
   |slice e=>
    obtain⟨b,rfl,_⟩:=h1;obtain⟨_,_,_,hv⟩:=okWide_slice hu hval;exact single hv rfl rfl
   |struct fs=>
    obtain⟨ys,_,rfl,_⟩:=h1;obtain⟨cs,rfl,_⟩:=okWide_struct hu hval;exact .agg _ _ (by simpa[AV.cells,Value.cells]using h2.1) (by simpa[AV.cells,Value.cells]using h2.2)
   |array m e=>
    obtain⟨ys,_,rfl,_⟩:=h1;simp only[Value.okWide,hu]at hval;obtain⟨cs,rfl,_⟩:=hval;exact .agg _ _ (by simpa[AV.cells,Value.cells]using h2.1) (by simpa[AV.cells,Value.cells]using h2.2)
   |_=>exact h1.elim
def Tys(P:Program)(d:Nat):List TypeId->List AV->Prop
 |[],[]=>True
 |t::ts,a::qs=>Ty P d t a/\Tys P d ts qs
 |_,_=>False
theorem G4{d base:Nat}:∀{ts:List TypeId} {vs:List Value} {xs:List (DataW H)} {ps:List MemPlace},(ts.all fun t=>Pt P d t)=true->
  (∀(j:Nat) t v,ts[j]? =some t->vs[j]? =some v->Value.okWide P w .any base t v)->DataW.TrodAll enc P w 0 (fun _=>true) held ts vs xs ps->
  ∃qs,Tys P d ts qs/\RL NoE w jR qs vs.toArray
 |[],vs,xs,ps,_,_,h=>by
  match vs,xs,h with
  |[],[],h=>exact⟨[],trivial,⟨rfl,fun i x y hx=>by simp at hx⟩⟩
 |t::ts,vs,xs,ps,ht,hval,h=>by
  match vs,xs,h with
  |v::vs,x::xs,h=>
   obtain⟨p,q,h1,h2,rfl⟩:=h;simp only[eZ,aJ]at ht;obtain⟨a,a1,a2⟩:=U2 ht.1 (hval 0 t v rfl rfl) h1;obtain⟨qs,b1,b2⟩:=G4 (base:=base) ht.2 (fun j t v hj hv=>hval (j+1) t v hj hv) h2;exact⟨a::qs,⟨a1,b1⟩,RL.app (RL.one a2) b2⟩
theorem rQ{f:FuncId}{fn:Func}{s:ChangeSpec}{d base:Nat}{t:TypeId}(hl:laidOutB P=true)(hp:J8 P fn.params.toList=true)(hty:(fn.params.toList.all fun t=>Pt P d t)=true)(hv:s.vars=[])
  (hr:fn.resultTypes=#[t])(ht:P.underlying t=some .bool)(hs:∀ds:List (DataW H),ds.length=fn.params.size->s.fn H ds={results:=[.lit (.bool true)],args:=ds})
  (hc:∀qs,Tys P d fn.params.toList qs->ACall P f qs [] fun r _=>r=.sb true\/r=.v (.bool true))
  {W:World}(hg:GlobOk NoE W){args:Array Value}{ds gs:List (DataW H)}{before:List MemPlace}(hval:∀(j:Nat) t v,fn.params[j]? =some t->args[j]? =some v->Value.okWide P W .any base t v)
  (hW:DataW.Whole enc P fn.params.toList s.vars false W args.toList ds gs before):
  Calls P f args W fun e W'=>∃v,e=.returned v/\s.post enc P fn false true false false W args v W':=by
 have hW1:=hW;obtain⟨pa,pv,hA,hV,hps,_,_⟩:=hW;have hgs:gs=[]:=by
  rw[hv]at hV;obtain⟨rfl,rfl⟩:=trodVars_none hV;rfl
 subst hgs;obtain⟨qs,h1,h2⟩:=G4 (d:=d) (base:=base) hty (fun j t v hj hv=>hval j t v (by simpa using hj) (by simpa using hv)) hA;have hlen:∀{ts:List TypeId} {vs:List Value} {xs:List (DataW H)} {ps:List MemPlace},DataW.TrodAll enc P W 0 (fun _=>true) true ts vs xs ps->xs.length=ts.length:=by
  intro ts
  induction ts with
  |nil=>intro vs xs ps h;match vs,xs,h with|[],[],_=>rfl
  |cons t ts ih=>
   intro vs xs ps h
   match vs,xs,h with
   |v::vs,x::xs,h=>
    obtain⟨p,q,_,h2,_⟩:=h;simp[ih h2]
 have hl2:=hlen hA;refine(ACall.law (hc qs h1) hg (show RL NoE W jR qs args by simpa using h2)).mono ?_
 rintro e W' ⟨rfl,hst⟩
 exact⟨_,rfl,Rn hW1 hst hl hp hv (by rw[bG];exact hs ds (by simpa using hl2)) hr ht⟩
end
end Go.Vm
namespace Go.Proofs.YtgicddadddhonaaGreatDoor
open Go Go.Vm
abbrev AC:=ACall Tryz.prog
theorem ofD(Γ:Ctx){f:FuncId}{fn:Func}(hf:Tryz.prog.funcs[f]? =some fn)(hb:fn.body=some (bdy fn):=by kernel_rfl)(hm:Tryz.prog.follows .mixedOrders=true:=by kernel_rfl)(hok:K0 Tryz.prog f=true:=by kernel_rfl)(hN:Γ.N=fn.ntmps:=by kernel_rfl)⦃args:List AV⦄ ⦃hs:List Vm.Obj⦄ ⦃K:KT⦄(hp:Nat.beq Γ.np hs.length=true) (ha:Nat.ble args.length Γ.N=true) (hq:W2 hs args fun σ=>qR Tryz.prog Γ (bdy fn) σ (aRe Tryz.prog Γ fn.results.toList K)):ACall Tryz.prog f args hs K:=ofC hf hb hm hok hN hp ha hq
def aNr:Ctx:={N:=7}
abbrev aIq:=ofD aNr Tryz.func256
def aUg:Ctx:={N:=20,plan:=p1 1 (lp 13 [26,29,31,33,35]) pn}
abbrev aQb:=ofD aUg Tryz.func247
def aWt:Ctx:={N:=18,plan:=p1 3 (lp 6 [12,15,17,19,20,23]) pn}
abbrev aVC:=ofD aWt Tryz.func185
def aUe:Ctx:={N:=17,plan:=p1 1 (ln [1,2,5,7,9,11,17,19,12,15,21,23,25]) pn}
abbrev aPZ:=ofD aUe Tryz.func202
def aUf:Ctx:={N:=20}
abbrev aQa:=ofD aUf Tryz.func283
def aUB:Ctx:={N:=13}
abbrev aQw:=ofD aUB Tryz.func246
def aNJ:Ctx:={N:=7}
abbrev aIH:=ofD aNJ Tryz.func153
def aUq:Ctx:={N:=21,plan:=p1 1 (lp 14 [28,31,33,35,37]) pn}
abbrev aQl:=ofD aUq Tryz.func152
def aWu:Ctx:={N:=20,plan:=p1 3 (lp 7 [14,17,19,21,23,24,27]) pn}
abbrev aVD:=ofD aWu Tryz.func87
def aUn:Ctx:={N:=25}
abbrev aQi:=ofD aUn Tryz.func66
def aUo:Ctx:={N:=25}
abbrev aQj:=ofD aUo Tryz.func302
def aNF:Ctx:={N:=13}
abbrev aID:=ofD aNF Tryz.func271
def g33:Ctx:={N:=53,plan:=p1 4 (lo 41) pn}
abbrev aWP:=ofD g33 Tryz.func272
def g34:Ctx:={N:=28}
abbrev aWQ:=ofD g34 Tryz.func36
def g14:Ctx:={N:=8}
abbrev aWJ:=ofD g14 Tryz.func82
def g26:Ctx:={N:=8}
abbrev aWM:=ofD g26 Tryz.func273
def g45:Ctx:={N:=44,plan:=p1 5 (lo 11) (p1 6 (lp 8 [19,21,23,25,27,29,31,33,16,34,37]) pn),hints:=h1 2 [.freeze 5] hn}
abbrev aWU:=ofD g45 Tryz.func225
def Ab:Sched:=.stop
def g51:Ctx:={N:=52,plan:=p1 8 (lz [3,5,7,11,17,19,21] (.alt 0 (.alt 4 (ln [12,14,22,25]) (.alt 6 (ln [8,14,22,25]) Ab)) (.alt 6 (ln [0,8,14,22,25]) Ab))) pn}
abbrev aWY:=ofD g51 Tryz.func276
def g38:Ctx:={N:=123,plan:=p1 9 (lp 6 [15,17,19,21,23,25,12,26,29,31]) (p1 20 (lo 17) pn),hints:=h1 3 [.virt 10 2] hn,cut:=oz [9,10,11,18,19]}
abbrev aWR:=ofD g38 Tryz.func149
structure Rg where
 lo:Int
 hi:Int
 l0:0<=lo
 l1:lo<=4294967295
 h0:0<=hi
 h1:hi<=4294967295
deriving DecidableEq
def encR(r:Rg):AV:=.agg [.v (.int .u32 r.lo),.v (.int .u32 r.hi)]
abbrev iR(l:List Rg):AV:=.lst (l.map encR)
def has(l:List Rg)(v:Int):Bool:=l.any fun r=>decide (r.lo<=v)&&decide (v<=r.hi)
theorem has_iff{l:List Rg}{v:Int}:has l v=true↔∃r,r∈l/\r.lo<=v/\v<=r.hi:=by
 simp[has,bR]
theorem aCh{l:List Rg}{v:Int}{k:Nat}{r:Rg}(h:l[k]? =some r):has (l.take (k+1)) v=(has (l.take k) v||(decide (r.lo<=v)&&decide (v<=r.hi))):=by
 simp[has,bE,h]
theorem aHg{l:List Rg}{v:Int}{k:Nat}{r:Rg}(h:l[k]? =some r)(h1:r.lo<=v)(h2:v<=r.hi):has l v=true:=has_iff.2 ⟨r,aG h,h1,h2⟩
theorem aEG(a b c d:Int)(w:World):(Op.equalIn 10000 55 (.agg #[.int .u32 a,.int .u32 b]) (.agg #[.int .u32 c,.int .u32 d])).run Tryz.prog w=.ok ((a==c)&&(b==d)) w:=by
 rw[run_equalIn_struct w 9999 55 _ _ zk zk];have hf:((Tryz.prog.fieldsOf 55).toList.map fun f=>(f.name== "_",f.type,f.offset))=[(false,23,0),(false,23,1)]:=by kernel_rfl
 generalize (Tryz.prog.fieldsOf 55).toList=fs at hf;have hu:Tryz.prog.underlying 23=some (.int .u32):=by kernel_rfl
 have ha:∀w,(isAgg 23).run Tryz.prog w=.ok false w:=fun w=>by simp[isAgg,run_underlying hu]
 have hp:∀(xs:Array Value) (i:Nat) (v:Value),xs[i]? =some v->∀w,(part 23 xs i).run Tryz.prog w=.ok v w:=by
  intro xs i v h w;simp[part,ha,h]
 have p1:=hp #[.int .u32 a,.int .u32 b] 0 (.int .u32 a) rfl;have p2:=hp #[.int .u32 a,.int .u32 b] 1 (.int .u32 b) rfl;have p3:=hp #[.int .u32 c,.int .u32 d] 0 (.int .u32 c) rfl;have p4:=hp #[.int .u32 c,.int .u32 d] 1 (.int .u32 d) rfl;cases fs with
 |nil=>simp at hf
 |cons f fs=>
  cases fs with
  |nil=>simp at hf
  |cons g fs=>
   cases fs with
   |cons g fs=>simp at hf
   |nil=>
    simp only[aR,bI,List.cons.injEq,Prod.mk.injEq,beq_eq_false_iff_ne,and_true]at hf;obtain⟨⟨h1,h2,h3⟩,h4,h5,h6⟩:=hf;simp only[Op.eqFields,h1,h2,h3,h4,h5,h6,ne_eq,not_false_eq_true,if_true,Sem.run_bind,p1,p2,p3,p4,Result.andThen_ok,run_equalIn_int _ 9998 23 .u32 .u32 _ _ hu,Sem.run_ite,Sem.run_pure];cases h:a==c<;>cases h':b==d<;>simp
theorem yI{r s:Rg}{K:Bool->Prop}(hk:K (decide (r=s))):EqV Tryz.prog 55 [.v (.int .u32 r.lo),.v (.int .u32 r.hi)] [.v (.int .u32 s.lo),.v (.int .u32 s.hi)] K:=by
 refine EqV.intro [.int .u32 r.lo,.int .u32 r.hi] [.int .u32 s.lo,.int .u32 s.hi] (decide (r=s)) rfl rfl zk (fun w=>?_) hk;rw[aEG];have:((r.lo==s.lo)&&(r.hi==s.hi))=decide (r=s):=by
  cases r;cases s;rw[bK];simp
 rw[this]
theorem c34(l:List Rg)(v:Int)(hl:l.length<1000000){K:KT}(hK:K (.sb (has l v)) []):AC 36 [iR l,.v (.int .u32 v)] [] K:=by
 refine gZ (aWQ rfl rfl ?_);conv=>whnf
 refine gV Nat (fun k=>⟨0,[],[(0,iR l),(1,.v (.int .u32 v)),(5,.v (.int .i64 k))]⟩) (fun k=>k<=l.length/\has (l.take k) v=false) (fun k=>l.length-k) 0 ?_ ?_ ?_
 ·exact⟨by omega,by simp[has]⟩
 ·exact⟨[],rfl,⟨rfl,rfl,rfl,trivial⟩,trivial⟩
 ·intro k ⟨hk,hinv⟩;have next:∀{σ:St} {r:Rg},l[k]? =some r->¬(r.lo<=v/\v<=r.hi)->k<l.length->Le 0 ⟨0,[],[(0,iR l),(1,.v (.int .u32 v)),(5,.v (.int .i64 ((k+1:Nat):Int)))]⟩ σ->
    ∃g',(g'<=l.length/\has (l.take g') v=false)/\l.length-g'<l.length-k/\Le 0 ⟨0,[],[(0,iR l),(1,.v (.int .u32 v)),(5,.v (.int .i64 (g':Int)))]⟩ σ:=by
   intro σ r hr hn hkl hle;refine⟨k+1,⟨by omega,?_⟩,by omega,hle⟩;rw[aCh hr,hinv];simp only[fG,Bool.and_eq_false_iff,decide_eq_false_iff_not];omega
  conv=>whnf
  refine sG (fun h=>?_) (fun h=>?_)
  ·have hkl:k<l.length:=by simp at h;omega
   conv=>whnf
   refine iI hkl ?_;refine nY hkl (fun r hr=>?_);conv=>whnf
   refine sG (fun h1=>?_) (fun h1=>?_)
   ·conv=>whnf
    refine iI hkl ?_;refine iH hr ?_;conv=>whnf
    refine sG (fun h2=>?_) (fun h2=>?_)
    ·conv=>whnf
     refine .inl ⟨true,rfl,?_⟩;rw[aHg hr h1 h2]at hK;exact hK
    ·conv=>whnf
     refine jO (r:=((k+1:Nat):Int)) zo zo zo ?_;conv=>whnf
     exact next hr zo hkl ⟨[],rfl,⟨rfl,rfl,rfl,trivial⟩,trivial⟩
   ·conv=>whnf
    refine jO (r:=((k+1:Nat):Int)) zo zo zo ?_;conv=>whnf
    exact next hr zo hkl ⟨[],rfl,⟨rfl,rfl,rfl,trivial⟩,trivial⟩
  ·conv=>whnf
   have hkl:k=l.length:=by simp at h;omega
   refine .inl ⟨false,rfl,?_⟩;rw[hkl,dF]at hinv;rw[hinv]at hK;exact hK
end Go.Proofs.YtgicddadddhonaaGreatDoor
namespace Go.Vm
theorem wrap_u32{n:Int}(h0:0<=n)(h1:n<=4294967295):IntKind.u32.wrap n=n:=by
 simp only[IntKind.wrap,IntKind.signed,IntKind.bits];simp;omega
theorem aAy{a:Nat}(h:a<4294967296):(BitVec.ofInt 32 (a:Int)).toNat=a:=by
 rw[BitVec.ofInt_natCast,BitVec.toNat_ofNat];exact Nat.mod_eq_of_lt h
theorem aCO(k:Nat)(hk:k<=32): ~~~(BitVec.ofInt 32 (4294967296-((2^k:Nat):Int)))=BitVec.ofNat 32 (2^k-1):=by
 have:∀k:Fin 33,~~~(BitVec.ofInt 32 (4294967296-((2^k.val:Nat):Int)))=BitVec.ofNat 32 (2^k.val-1):=by decide
 exact this ⟨k,by omega⟩
theorem p32{k:Nat}(hk:k<=32):2^k<=4294967296:=fZ (show 2>0 by decide) hk
theorem X9(a b:Int):oM .andNot .u32 a b=IntKind.u32.wrap ((BitVec.ofInt 32 a&&& ~~~(BitVec.ofInt 32 b):BitVec 32).toNat:Int):=rfl
theorem aLc(a b:Int):oM .and .u32 a b=IntKind.u32.wrap ((BitVec.ofInt 32 a&&&BitVec.ofInt 32 b:BitVec 32).toNat:Int):=rfl
theorem aRD(a b:Int):oM .or .u32 a b=IntKind.u32.wrap ((BitVec.ofInt 32 a|||BitVec.ofInt 32 b:BitVec 32).toNat:Int):=rfl
theorem P9{a:Int}(h0:0<=a)(h1:a<=4294967295){k:Nat}(hk:k<=32):oM .andNot .u32 a (4294967296-((2^k:Nat):Int))=a%((2^k:Nat):Int):=by
 obtain⟨n,rfl⟩:=eJ h0;have hp:=p32 hk;have hk0:=fT k;rw[X9,aCO k hk,BitVec.toNat_and,aAy zo,BitVec.toNat_ofNat,Nat.mod_eq_of_lt (show 2^k-1<2^32 by omega),Nat.and_two_pow_sub_one_eq_mod];have:=Nat.mod_le n (2^k);rw[wrap_u32 zo zo];omega
theorem aCV{n k:Nat}(hk:k<=32)(hn:n<4294967296):n&&&(4294967296-2^k)=n/2^k*2^k:=by
 have e:4294967296-2^k=(2^(32-k)-1)<<<k:=by
  rw[Nat.shiftLeft_eq,Nat.sub_mul,fQ,<-Nat.pow_add,Nat.sub_add_cancel hk]
 rw[e,<-Nat.shiftLeft_eq,<-Nat.shiftRight_eq_div_pow];apply Nat.eq_of_testBit_eq;intro i;simp only[Nat.testBit_and,Nat.testBit_shiftLeft,Nat.testBit_shiftRight,Nat.testBit_two_pow_sub_one];by_cases hi:i≥k
 ·simp only[hi,decide_true,dQ,show k+(i-k)=i by omega];by_cases h32:i-k<32-k
  ·simp[h32]
  ·have:n.testBit i=false:=Nat.testBit_lt_two_pow (cN hn (fZ (show 2>0 by decide) (show 32<=i by omega)));simp[this]
 ·simp[hi]
theorem aAn{a:Int}(h0:0<=a)(h1:a<=4294967295){k:Nat}(hk:k<=32):oM .and .u32 a (4294967296-((2^k:Nat):Int))=a-a%((2^k:Nat):Int):=by
 obtain⟨n,rfl⟩:=eJ h0;have hp:=p32 hk;have hk0:=fT k;have e:(4294967296-((2^k:Nat):Int))=((4294967296-2^k:Nat):Int):=by omega
 rw[aLc,e,BitVec.toNat_and,aAy zo,aAy zo,aCV hk zo];have h3:=Nat.div_add_mod n (2^k);rw[gR]at h3;rw[wrap_u32 zo zo];omega
theorem Nn{k:Nat}(hk:k<=32):oM .xor .u32 4294967295 (4294967296-((2^k:Nat):Int))=((2^k:Nat):Int)-1:=by
 have:∀k:Fin 33,oM .xor .u32 4294967295 (4294967296-((2^k.val:Nat):Int))=((2^k.val:Nat):Int)-1:=by decide
 exact this ⟨k,by omega⟩
theorem Ie{a:Int}(h0:0<=a)(h1:a<=4294967295){k:Nat}(hk:k<=32)(ha:a%((2^k:Nat):Int)=0):oM .or .u32 a (((2^k:Nat):Int)-1)=a+(((2^k:Nat):Int)-1)/\a+(((2^k:Nat):Int)-1)<=4294967295:=by
 obtain⟨n,rfl⟩:=eJ h0;have hp:=p32 hk;have hk0:=fT k;have hn:n%2^k=0:=by omega
 have h3:=Nat.div_add_mod n (2^k);have hlt:n+(2^k-1)<4294967296:=by
  have e32:2^k*2^(32-k)=4294967296:=by rw[<-Nat.pow_add,show k+(32-k)=32 by omega]
  have:n/2^k<2^(32-k):=by
   rw[gT hk0,gR,e32];omega
  have h5:2^k*(n/2^k+1)<=2^k*2^(32-k):=dV _ this;rw[e32,gF]at h5;omega
 have e:(((2^k:Nat):Int)-1)=((2^k-1:Nat):Int):=by omega
 have h4:n|||(2^k-1)=n+(2^k-1):=by
  have:=Nat.two_pow_add_eq_or_of_lt (i:=k) (b:=2^k-1) zo (n/2^k);rw[show n=2^k*(n/2^k) by omega];exact this.symm
 refine⟨?_,by omega⟩;rw[aRD,e,BitVec.toNat_or,aAy zo,aAy zo,h4,wrap_u32 zo zo];omega
theorem H4{α:Type}{f:α->AV}{l:List α}{k:Nat}{K:List AV->Prop}(h:k<=l.length)(hk:K ((l.take k).map f)):Sb 0 (k:Int) (l.map f).length fun a b=>Sl (l.map f) a (b-a) K:=
 iF 0 k rfl rfl zo (by simpa using h) (mQ zo (by simpa using hk))
theorem kE{K:KT}{hs:List Obj}{X:Bool}(hK:K (.sb X) hs)(h:X=true):(∃b,AV.v (.bool true)=.v (.bool b)/\K (.sb b) hs)\/(∃b,AV.v (.bool true)=.sb b/\K (.sb b) hs):=.inl ⟨true,rfl,h▸hK⟩
theorem iU{K:KT}{hs:List Obj}{X:Bool}(hK:K (.sb X) hs)(h:X=false):(∃b,AV.v (.bool false)=.v (.bool b)/\K (.sb b) hs)\/(∃b,AV.v (.bool false)=.sb b/\K (.sb b) hs):=.inl ⟨false,rfl,h▸hK⟩
theorem kB{K:KT}{hs:List Obj}{X b:Bool}(hK:K (.sb X) hs)(h:X=b):(∃c,AV.sb b=.v (.bool c)/\K (.sb c) hs)\/(∃c,AV.sb b=.sb c/\K (.sb c) hs):=.inr ⟨b,rfl,h▸hK⟩
end Go.Vm
namespace Go.Proofs.YtgicddadddhonaaGreatDoor
open Go Go.Vm
structure Pf where
 addr:Int
 bits:Int
 a0:0<=addr
 a1:addr<=4294967295
deriving DecidableEq
abbrev lN(p:Pf):AV:=.agg [.v (.int .u32 p.addr),.v (.int .i64 p.bits)]
def pz(b:Int):Int:=((2^(32-b).toNat:Nat):Int)
theorem zM(b:Int):0<pz b:=by
 have:=fT (32-b).toNat;unfold pz;omega
theorem aVN(b:Int)(h0:0<=b):pz b<=4294967296:=by
 have:=fZ (show 2>0 by decide) (show(32-b).toNat<=32 by omega);unfold pz;omega
theorem Y7(n:Int)(h0:0<=n)(h1:n<=32):IntKind.u32.wrap (4294967295*2^min (32-n).toNat IntKind.u32.bits)=4294967296-pz n:=by
 have h:∀k:Fin 33,IntKind.u32.wrap (4294967295*2^min k.val IntKind.u32.bits)=4294967296-((2^k.val:Nat):Int):=by decide
 exact h ⟨(32-n).toNat,by omega⟩
theorem Z3(n:Int)(h0:0<=n)(h1:n<=32):IntKind.u64.wrap (1*2^min (32-n).toNat IntKind.u64.bits)=pz n:=by
 have h:∀k:Fin 33,IntKind.u64.wrap (1*2^min k.val IntKind.u64.bits)=((2^k.val:Nat):Int):=by decide
 exact h ⟨(32-n).toNat,by omega⟩
theorem aLa{k:IntKind}{e r:Int}{K:Int->Prop}(h:k.wrap e=r)(hk:K r):Wr k e K:=Wr.intro h hk
theorem Tc(n:Int)(h0:0<=n)(h1:n<=32){K:KT}(hK:K (.v (.int .u32 (4294967296-pz n))) []):AC 256 [.v (.int .i64 n)] [] K:=by
 refine aIq rfl rfl ?_
 iterate 6 (all_goals((conv=>whnf);first|refine zG ?_|apply zA|intro h|exact zT|skip))
 refine aLa (Y7 n h0 h1) ?_
 iterate 2 (all_goals((conv=>whnf);first|refine zG ?_|apply zA|intro h|exact zT|skip))
 exact hK
theorem aAZ(n:Int)(h0:0<=n)(h1:n<=32){K:KT}(hK:K (.v (.int .u64 (pz n))) []):AC 153 [.v (.int .i64 n)] [] K:=by
 refine aIH rfl rfl ?_
 iterate 6 (all_goals((conv=>whnf);first|refine zG ?_|apply zA|intro h|exact zT|skip))
 refine aLa (Z3 n h0 h1) ?_
 iterate 2 (all_goals((conv=>whnf);first|refine zG ?_|apply zA|intro h|exact zT|skip))
 exact hK
def Pf.okP(p:Pf):Prop:=0<=p.bits/\p.bits<=32/\p.addr%pz p.bits=0
instance (p:Pf):Decidable p.okP:=by unfold Pf.okP;infer_instance
theorem aKV(b:Int):pz b≠0:=Int.ne_of_gt (zM b)
theorem aEk{p:Pf}(h:p.okP):p.addr+pz p.bits-1<=4294967295:=by
 have:=(Ie p.a0 p.a1 (k:=(32-p.bits).toNat) (by obtain⟨h1,h2,h3⟩:=h;omega) h.2.2).2;unfold pz;omega
theorem Qo(p:Pf){K:KT}(hK:K (.sb (decide p.okP)) []):AC 152 [lN p] [] K:=by
 have b0:=p.a0;have b1:=p.a1;refine gZ (aQl rfl rfl ?_)
 iterate 24 (all_goals((conv=>whnf);first|(with_reducible first|refine aAZ _ zo zo ?_|refine Ob.intro (aKV _) ?_|refine xG (fU b0) (Int.emod_nonneg _ (aKV _)) (Int.le_trans (Int.le_of_lt (Int.emod_lt_of_pos _ (zM _))) (Int.le_trans (aVN _ zo) zo)) ?_)|refine zG ?_|apply zA|intro h|exact zT|skip))
 ·exact kB hK (decide_eq_decide.2 (by rw[fU b0];simp only[Pf.okP];omega))
 ·exact iU hK (decide_eq_false (by simp only[Pf.okP];omega))
 ·exact iU hK (decide_eq_false (by simp only[Pf.okP];omega))
theorem Iq(p:Pf){K:KT}(hK:K (.sb (decide p.okP)) []):AC 247 [lN p] [] K:=by
 have b0:=p.a0;have b1:=p.a1;refine gZ (aQb rfl rfl ?_)
 iterate 20 (all_goals((conv=>whnf);first|(with_reducible refine Tc _ zo zo ?_)|refine zG ?_|apply zA|intro h|exact zT|skip))
 ·refine kB hK (decide_eq_decide.2 ?_);rw[pz,P9 b0 b1 zo,Pf.okP,pz];omega
 ·exact iU hK (decide_eq_false (by simp only[Pf.okP];omega))
 ·exact iU hK (decide_eq_false (by simp only[Pf.okP];omega))
def Pf.rg(p:Pf):Rg:=if h:p.okP then⟨p.addr,p.addr+pz p.bits-1,p.a0,p.a1,by have:=p.a0;have:=zM p.bits;omega,aEk h⟩else⟨0,0,by omega,by omega,by omega,by omega⟩
theorem Sh{p:Pf}(h:p.okP):p.rg.lo=p.addr:=by simp[Pf.rg,h]
theorem Sg{p:Pf}(h:p.okP):p.rg.hi=p.addr+pz p.bits-1:=by simp[Pf.rg,h]
theorem aBr{p:Pf}(h:p.okP):encR p.rg=.agg [.v (.int .u32 p.addr),.v (.int .u32 (p.addr+pz p.bits-1))]:=by rw[encR,Sh h,Sg h]
theorem Wc{p:Pf}(h:¬p.okP):encR p.rg=.agg [.v (.int .u32 0),.v (.int .u32 0)]:=by simp[encR,Pf.rg,h]
def Pf.has(p:Pf)(v:Int):Bool:=decide p.okP&&(decide (p.rg.lo<=v)&&decide (v<=p.rg.hi))
theorem Weak.boolIs{b c:Bool}(h:c=b):Weak (.v (.bool b)) (.sb c):=h▸Weak.bool
theorem aWq(p:Pf){K:KT}(hK:K (.tup [encR p.rg,.sb (decide p.okP)]) []):AC 185 [lN p] [] K:=by
 have b0:=p.a0;have b1:=p.a1;refine hJ (aVC rfl rfl ?_);rcases Decidable.em p.okP with hp|hp
 ·obtain⟨h0,h1,h2⟩:=id hp
  iterate 24 (all_goals((conv=>whnf);first|(with_reducible first|refine Iq _ ?_|refine Tc _ h0 h1 ?_)|refine zG ?_|apply zA|intro h|exact zT|skip))
  refine⟨_,hU .refl (Weak.boolIs (decide_eq_true hp)),?_⟩;have e:oM BinOp.or IntKind.u32 p.addr (oM BinOp.xor IntKind.u32 (if IntKind.u32.signed=true then-1 else IntKind.u32.max) (4294967296-pz p.bits))=p.addr+pz p.bits-1:=by
   have h3:=(Ie b0 b1 (k:=(32-p.bits).toNat) zo h2).1;have h4:=Nn (k:=(32-p.bits).toNat) zo;rw[pz,show(if IntKind.u32.signed=true then-1 else IntKind.u32.max)=4294967295 from rfl,h4,h3];omega
  rw[e,<-aBr hp];exact hK
 ·iterate 24 (all_goals((conv=>whnf);first|(with_reducible refine Iq _ ?_)|refine zG ?_|apply zA|intro h|exact zT|skip))
  refine⟨_,hU .refl (Weak.boolIs (decide_eq_false hp)),?_⟩;rw[<-Wc hp];exact hK
theorem Qn(p:Pf){K:KT}(hK:K (.tup [encR p.rg,.sb (decide p.okP)]) []):AC 87 [lN p] [] K:=by
 have b0:=p.a0;have b1:=p.a1;refine hJ (aVD rfl rfl ?_);rcases Decidable.em p.okP with hp|hp
 ·obtain⟨h0,h1,h2⟩:=id hp;have h3:=aEk hp;have h4:=zM p.bits
  iterate 24 (all_goals((conv=>whnf);first|(with_reducible first|refine Qo _ ?_|refine aAZ _ h0 h1 ?_)|refine zG ?_|apply zA|intro h|exact zT|skip))
  refine⟨_,hU .refl (Weak.boolIs (decide_eq_true hp)),?_⟩;rw[<-aBr hp];exact hK
 ·iterate 24 (all_goals((conv=>whnf);first|(with_reducible refine Qo _ ?_)|refine zG ?_|apply zA|intro h|exact zT|skip))
  refine⟨_,hU .refl (Weak.boolIs (decide_eq_false hp)),?_⟩;rw[<-Wc hp];exact hK
theorem has_iffP{p:Pf}{v:Int}:p.has v=true↔p.okP/\p.addr<=v/\v<=p.addr+pz p.bits-1:=by
 simp only[Pf.has,aJ,aL];constructor
 ·rintro⟨h,h1,h2⟩;rw[Sh h]at h1;rw[Sg h]at h2;exact⟨h,h1,h2⟩
 ·rintro⟨h,h1,h2⟩;rw[Sh h,Sg h];exact⟨h,h1,h2⟩
theorem aAX(p:Pf)(v:Int){K:KT}(hK:K (.sb (p.has v)) []):AC 66 [lN p,.v (.int .u32 v)] [] K:=by
 refine gZ (aQi rfl rfl ?_)
 iterate 24 (all_goals((conv=>whnf);first|(with_reducible refine Qn _ ?_)|refine zG ?_|apply zA|intro h|exact zT|skip))
 ·exact kB hK (by simp_all[Pf.has])
 ·exact iU hK (by simp_all[Pf.has];omega)
 ·exact iU hK (by simp_all[Pf.has])
theorem Ya{a v s:Int}(hs:0<s)(ha:a%s=0):v-v%s=a↔a<=v/\v<=a+s-1:=by
 have h1:=Int.emod_nonneg v (Int.ne_of_gt hs);have h2:=Int.emod_lt_of_pos v hs;constructor
 ·intro h;omega
 ·intro⟨h3,h4⟩;have e:v%s=(v-a)%s:=by
   have:v=(v-a)+a:=by omega
   rw[Int.sub_emod,ha,Int.sub_zero,Int.emod_emod]
  rw[Int.emod_eq_of_lt (show 0<=v-a by omega) (show v-a<s by omega)]at e;omega
theorem aAR(p:Pf)(v:Int)(v0:0<=v)(v1:v<=4294967295){K:KT}(hK:K (.sb (p.has v)) []):AC 202 [lN p,.v (.int .u32 v)] [] K:=by
 refine gZ (aPZ rfl rfl ?_)
 iterate 24 (all_goals((conv=>whnf);first|(with_reducible first|refine Iq _ ?_|refine Tc _ (by simp only[Pf.okP]at h;omega) (by simp only[Pf.okP]at h;omega) ?_)|refine zG ?_|apply zA|intro h|exact zT|skip))
 ·refine kB hK ?_;have h0:0<=p.bits/\p.bits<=32/\p.addr%pz p.bits=0:=h;rw[pz,aAn v0 v1 zo,<-pz,bK,has_iffP,aL,Ya (zM _) h0.2.2];exact⟨fun h=>h.2,fun h1=>⟨h,h1⟩⟩
 ·exact iU hK (by simp_all[Pf.has])
def Pf.cov(p q:Pf):Bool:=decide q.okP&&(p.has q.rg.lo&&p.has q.rg.hi)
theorem aSe(p q:Pf){K:KT}(hK:K (.sb (p.cov q)) []):AC 302 [lN p,lN q] [] K:=by
 refine gZ (aQj rfl rfl ?_)
 iterate 24 (all_goals((conv=>whnf);first|(with_reducible first|refine Qn _ ?_|refine aAX _ _ ?_)|refine zG ?_|apply zA|intro h|exact zT|skip))
 ·exact kB hK (by simp_all[Pf.cov])
 ·exact iU hK (by simp_all[Pf.cov])
 ·exact iU hK (by simp_all[Pf.cov])
theorem aRb{a b:Int}(h:a<=b)(hb:b<=32):∃k:Nat,0<k/\pz a=pz b*k:=by
 refine⟨2^(b-a).toNat,fT _,?_⟩;unfold pz;rw[show(32-a).toNat=(32-b).toNat+(b-a).toNat by omega,Nat.pow_add]
 push_cast;rfl
theorem aVO{a b:Int}(h:a<b)(hb:b<=32):pz b<pz a:=by
 have:2^(32-b).toNat<2^(32-a).toNat:=Nat.pow_lt_pow_right zd zo;unfold pz;omega
theorem aAo{a b s:Int}{k:Nat}(hs:0<s)(ha:a%(s*k)=0)(hb:b%s=0)(h1:a<=b)(h2:b<=a+s*k-1):b+s-1<=a+s*k-1:=by
 have e1:s∣a:=Int.dvd_trans (Int.dvd_mul_right s k) (Int.dvd_of_emod_eq_zero ha);have e2:s∣b:=Int.dvd_of_emod_eq_zero hb;have e3:s∣(a+s*k-b):=Int.dvd_sub (Int.dvd_add e1 (Int.dvd_mul_right s k)) e2;have:=Int.le_of_dvd zo e3;omega
theorem N0{p q:Pf}:p.cov q=true↔q.okP/\p.bits<=q.bits/\p.has q.addr=true:=by
 simp only[Pf.cov,aJ,aL];constructor
 ·rintro⟨h,h1,h2⟩
  rw[Sh h]at h1;rw[Sg h]at h2;refine⟨h,?_,h1⟩;have g1:=has_iffP.1 h1;have g2:=has_iffP.1 h2;rcases(by omega:q.bits<p.bits\/p.bits<=q.bits)with hb|hb
  ·have:=aVO hb g1.1.2.1;omega
  ·exact hb
 ·rintro⟨h,h1,h2⟩
  refine⟨h,by rw[Sh h];exact h2,?_⟩;rw[Sg h];obtain⟨g0,g1,g2⟩:=has_iffP.1 h2;have hq:=zM q.bits;obtain⟨k,hk,e⟩:=aRb h1 h.2.1;have ha:=g0.2.2;rw[e]at ha g2;have:=aAo hq ha h.2.2 g1 g2;exact has_iffP.2 ⟨g0,by omega,by rw[e];omega⟩
theorem aRZ(p q:Pf){K:KT}(hK:K (.sb (p.cov q)) []):AC 283 [lN p,lN q] [] K:=by
 have a0:=q.a0;have a1:=q.a1;refine gZ (aQa rfl rfl ?_)
 iterate 24 (all_goals((conv=>whnf);first|(with_reducible first|refine Iq _ ?_|refine aAR _ _ a0 a1 ?_)|refine zG ?_|apply zA|intro h|exact zT|skip))
 ·exact kB hK (by rw[bK,N0];simp_all)
 ·exact iU hK (by rw[bY,ne_eq,N0];exact fun hh=>by have:=hh.2.1;omega)
 ·exact iU hK (by rw[bY,ne_eq,N0];simp_all)
def Pf.meet(p q:Pf):Bool:=p.cov q||q.cov p
theorem aLE(p q:Pf){K:KT}(hK:K (.sb (p.meet q)) []):AC 271 [lN p,lN q] [] K:=by
 refine gZ (aID rfl rfl ?_)
 iterate 24 (all_goals((conv=>whnf);first|(with_reducible refine aSe _ _ ?_)|refine zG ?_|apply zA|intro h|exact zT|skip))
 ·exact kE hK (by simp_all[Pf.meet])
 ·exact kB hK (by simp_all[Pf.meet])
theorem aKv(p q:Pf){K:KT}(hK:K (.sb (p.meet q)) []):AC 246 [lN p,lN q] [] K:=by
 refine gZ (aQw rfl rfl ?_)
 iterate 24 (all_goals((conv=>whnf);first|(with_reducible refine aRZ _ _ ?_)|refine zG ?_|apply zA|intro h|exact zT|skip))
 ·exact kE hK (by simp_all[Pf.meet])
 ·exact kB hK (by simp_all[Pf.meet])
def aNP:Ctx:={N:=71}
abbrev aIM:=ofD aNP Tryz.func178
def aNI:Ctx:={N:=65}
abbrev aIG:=ofD aNI Tryz.func144
def aGV:Ctx:={N:=26}
abbrev aDT:=ofD aGV Tryz.func243
def aUA:Ctx:={N:=9}
abbrev aQv:=ofD aUA Tryz.func244
def aMH:Ctx:={N:=19}
abbrev aHH:=ofD aMH Tryz.func265
def aNZ:Ctx:={N:=8}
abbrev aIW:=ofD aNZ Tryz.func282
def aCe:Ctx:={N:=52}
abbrev Zr:=ofD aCe Tryz.func245
def aOa:Ctx:={N:=9}
abbrev aIX:=ofD aOa Tryz.func115
def aGf:Ctx:={N:=19}
abbrev Ru:=ofD aGf Tryz.func199
def aGW:Ctx:={N:=8}
abbrev aDU:=ofD aGW Tryz.func200
def aTl:Ctx:={N:=19}
abbrev aPi:=ofD aTl Tryz.func266
def aMz:Ctx:={N:=9}
abbrev Xd:=ofD aMz Tryz.func203
def aOb:Ctx:={N:=7}
abbrev aIY:=ofD aOb Tryz.func248
def aUC:Ctx:={N:=173}
abbrev aQx:=ofD aUC Tryz.func173
def aOd:Ctx:={N:=70}
abbrev aJa:=ofD aOd Tryz.func218
def aUD:Ctx:={N:=22}
abbrev aQy:=ofD aUD Tryz.func270
def aCf:Ctx:={N:=46}
abbrev Zs:=ofD aCf Tryz.func219
def aOe:Ctx:={N:=22}
abbrev aJb:=ofD aOe Tryz.func20
def aGX:Ctx:={N:=29,hints:=h1 2 [.virt 3 2] hn}
abbrev aDV:=ofD aGX Tryz.func142
def Ac:Sched:=lp 5 [10]
def aGY:Ctx:={N:=18,plan:=p1 4 Ac pn}
abbrev aDW:=ofD aGY Tryz.func220
def aUE:Ctx:={N:=152,plan:=p1 12 (lp 8 [16,19,21,23,25,27,29,31,33,35,39,36,41,43]) (p1 18 (lp 7 [14]) (p1 23 (lp 5 [10,13,15,17,19,21,23,25,27,29,31,33,34,37]) pn))}
abbrev aQz:=ofD aUE Tryz.func141
def nmL(c:Int):Prop:=97<=c/\c<=122
def nmC(c:Int):Prop:=(97<=c/\c<=122)\/(48<=c/\c<=57)\/c=45\/c=95
def qF(s:ByteArray):Prop:=(s.toList==(⟨#[]⟩:ByteArray).toList)=false/\(s.size:Int)<=24/\(s.toList==(⟨#[97,110,121]⟩:ByteArray).toList)=false/\(∀b,s[0]? =some b->nmL (b.toNat:Int))/\∀(i:Nat) b,s[i]? =some b->nmC (b.toNat:Int)
open Classical in
def nameB(s:ByteArray):Bool:=decide (qF s)
theorem oX{s:ByteArray}(h:qF s):nameB s=true:=by simp[nameB,h]
theorem lZ{s:ByteArray}(h:¬qF s):nameB s=false:=by simp[nameB,h]
theorem nameB_iff{s:ByteArray}:nameB s=true↔qF s:=by simp[nameB]
theorem aEL{s:ByteArray}(h:(s.toList==(⟨#[]⟩:ByteArray).toList)=false):0<s.size:=by
 rcases cV s.size with h0|h0
 ·exfalso;have:s=⟨#[]⟩:=by
   obtain⟨d⟩:=s;have:d=#[]:=dA h0;rw[this]
  rw[this]at h;simp at h
 ·exact h0
theorem aCA{s:ByteArray}{j:Nat}{K:UInt8->Prop}(h:j<s.size)(hk:∀b,s[j]? =some b->K b):∃b,s[j]? =some b/\K b:=⟨s[j],by simp[h],hk _ (by simp[h])⟩
theorem aCB{s:ByteArray}{j:Nat}{b:UInt8}{K:UInt8->Prop}(h:s[j]? =some b)(hk:K b):∃b,s[j]? =some b/\K b:=⟨b,h,hk⟩
theorem vX(s:ByteArray){K:KT}(hK:K (.sb (nameB s)) []):AC 178 [.v (.string s)] [] K:=by
 refine gZ (aIM rfl rfl ?_)
 iterate 12 (all_goals((conv=>whnf);first|refine zG ?_|apply zA|intro h|exact zT|skip))
 ·exact iU hK (lZ fun hn=>by have:=hn.1;simp_all)
 ·exact iU hK (lZ fun hn=>by have:=hn.2.1;omega)
 ·exact iU hK (lZ fun hn=>by have:=hn.2.2.1;simp_all)
 rename_i g1 g2;have g3:=h;have hp:=aEL g1;refine iJ (j:=0) hp ?_;refine aCA hp fun c hc=>?_
 iterate 3 (all_goals((conv=>whnf);first|refine zG ?_|apply zA|intro h|exact zT|skip))
 ·exact iU hK (lZ fun hn=>by have:=hn.2.2.2.1 c hc;unfold nmL at this;omega)
 refine iJ (j:=0) hp ?_;refine aCB hc ?_
 iterate 3 (all_goals((conv=>whnf);first|refine zG ?_|apply zA|intro h|exact zT|skip))
 ·exact iU hK (lZ fun hn=>by have:=hn.2.2.2.1 c hc;unfold nmL at this;omega)
 rename_i g4;have g5:=h;refine gV Nat (fun k=>⟨0,[],[(0,.v (.string s)),(3,.v (.int .i64 k))]⟩) (fun k=>k<=s.size/\∀(i:Nat) b,i<k->s[i]? =some b->nmC (b.toNat:Int)) (fun k=>s.size-k) 0 ?_ ?_ ?_
 ·exact⟨by omega,fun i b hi=>by omega⟩
 ·exact⟨[],rfl,⟨rfl,rfl,trivial⟩,trivial⟩
 ·intro k ⟨hk,hinv⟩;rcases aD k s.size with hkl|hkl
  ·obtain⟨b,hb⟩:∃b,s[k]? =some b:=⟨s[k],by simp[hkl]⟩
   iterate 40 (all_goals((conv=>whnf);first|(with_reducible first|refine iJ hkl ?_|refine aCB hb ?_)|refine zG ?_|apply zA|intro h|exact zT|skip))
   all_goals first
    |(refine iU hK (lZ fun hn=>?_)
      have:=hn.2.2.2.2 k b hb;unfold nmC at this;omega)
    |(refine⟨k+1,⟨by omega,fun i c hi hc=>?_⟩,by omega,⟨[],rfl,⟨rfl,rfl,trivial⟩,trivial⟩⟩
      rcases aD i k with h9|h9
      ·exact hinv i c h9 hc
      ·have:i=k:=by omega
       subst this;rw[hb]at hc;cases hc;unfold nmC;omega)
  ·iterate 12 (all_goals((conv=>whnf);first|refine zG ?_|apply zA|intro h|exact zT|skip))
   exact kE hK (oX ⟨g1,by omega,g3,fun b hb=>by rw[hc]at hb;cases hb;unfold nmL;omega,fun i b hb=>hinv i b (by
    rcases aD i s.size with h9|h9
    ·omega
    ·simp[h9]at hb) hb⟩)
theorem vW(s:ByteArray){K:KT}(hK:K (.sb (nameB s)) []):AC 144 [.v (.string s)] [] K:=by
 refine gZ (aIG rfl rfl ?_)
 iterate 16 (all_goals((conv=>whnf);first|refine zG ?_|apply zA|intro h|exact zT|skip))
 ·exact iU hK (lZ fun hn=>by have:=hn.1;simp_all)
 ·exact iU hK (lZ fun hn=>by have:=hn.2.1;omega)
 ·exact iU hK (lZ fun hn=>by have:=hn.2.2.1;simp_all)
 rename_i g1 g2;have g3:=h;refine gV Nat (fun k=>⟨0,[],[(0,.v (.string s)),(3,.v (.int .i64 k))]⟩) (fun k=>k<=s.size/\∀(i:Nat) b,i<k->s[i]? =some b->nmC (b.toNat:Int)/\(i=0->nmL (b.toNat:Int))) (fun k=>s.size-k) 0 ?_ ?_ ?_
 ·exact⟨by omega,fun i b hi=>by omega⟩
 ·exact⟨[],rfl,⟨rfl,rfl,trivial⟩,trivial⟩
 ·intro k ⟨hk,hinv⟩;rcases aD k s.size with hkl|hkl
  ·obtain⟨b,hb⟩:∃b,s[k]? =some b:=⟨s[k],by simp[hkl]⟩
   iterate 50 (all_goals((conv=>whnf);first|(with_reducible first|refine iJ hkl ?_|refine aCB hb ?_)|refine zG ?_|apply zA|intro h|exact zT|skip))
   all_goals first
    |(refine iU hK (lZ fun hn=>?_)
      have h7:=hn.2.2.2.2 k b hb;have h8:=fun h0:k=0=>hn.2.2.2.1 b (h0▸hb);unfold nmC at h7;unfold nmL at h8;omega)
    |(refine⟨k+1,⟨by omega,fun i c hi hc=>?_⟩,by omega,⟨[],rfl,⟨rfl,rfl,trivial⟩,trivial⟩⟩
      rcases aD i k with h9|h9
      ·exact hinv i c h9 hc
      ·have:i=k:=by omega
       subst this;rw[hb]at hc;cases hc;unfold nmC nmL;omega)
  ·iterate 12 (all_goals((conv=>whnf);first|refine zG ?_|apply zA|intro h|exact zT|skip))
   have hall:∀(i:Nat) b,s[i]? =some b->nmC (b.toNat:Int)/\(i=0->nmL (b.toNat:Int)):=fun i b hb=>hinv i b (by
    rcases aD i s.size with h9|h9
    ·omega
    ·simp[h9]at hb) hb
   exact kE hK (oX ⟨g1,by omega,g3,fun b hb=>(hall 0 b hb).2 rfl,fun i b hb=>(hall i b hb).1⟩)
structure Dv where
 name:ByteArray
 cap:Int
 rg:Bool
 vol:Bool
 cls:ByteArray
structure Lk where
 a:Int
 b:Int
 cost:Int
structure Ed where
 name:ByteArray
 dev:Int
 zone:ByteArray
 pf:Pf
 pl:Bool
structure Tp where
 devs:List Dv
 links:List Lk
 edges:List Ed
 pools:List Pf
 tol:Int
abbrev pY(d:Dv):AV:=.agg [.v (.string d.name),.v (.int .i64 d.cap),.sb d.rg,.sb d.vol,.v (.string d.cls)]
abbrev Dn(l:Lk):AV:=.agg [.v (.int .i64 l.a),.v (.int .i64 l.b),.v (.int .i64 l.cost)]
abbrev lY(e:Ed):AV:=.agg [.v (.string e.name),.v (.int .i64 e.dev),.v (.string e.zone),.v (.int .u32 e.pf.addr),.v (.int .i64 e.pf.bits),.sb e.pl]
abbrev jT(t:Tp):AV:=.agg [.lst (t.devs.map pY),.lst (t.links.map Dn),.lst (t.edges.map lY),.lst (t.pools.map lN),.v (.int .i64 t.tol)]
def jM{α:Type}(p:α->Bool)(l:List α):Int:=match l.findIdx? p with
 |some i=>(i:Int)
 |none=> -1
theorem jN{α:Type}{p:α->Bool}{l:List α}{k:Nat}{x:α}(hx:l[k]? =some x)(hp:p x=true)(hn:∀(i:Nat) y,i<k->l[i]? =some y->p y=false):jM p l=k:=by
 have hk:k<l.length:=(aP.1 hx).1;have:l.findIdx? p=some k:=by
  rw[dS];refine⟨hk,?_,fun j hj=>?_⟩
  ·rw[aE hk]at hx;rw[bB hx];exact hp
  ·have:=hn j _ hj (aE zo);simp[this]
 simp[jM,this]
theorem jS{α:Type}{p:α->Bool}{l:List α}(hn:∀(i:Nat) y,l[i]? =some y->p y=false):jM p l= -1:=by
 have:l.findIdx? p=none:=by
  rw[gD];intro x hx;obtain⟨i,hi⟩:=bH.1 hx;exact hn i x hi
 simp[jM,this]
theorem jJ{α:Type}{p:α->Bool}{l:List α}{k:Nat}{x:α}(hx:l[k]? =some x)(hp:p x=false)(hn:∀(i:Nat) y,i<k->l[i]? =some y->p y=false):∀(i:Nat) y,i<k+1->l[i]? =some y->p y=false:=by
 intro i y hi hy;rcases aD i k with h|h
 ·exact hn i y h hy
 ·have:i=k:=by omega
  subst this;rw[hx]at hy;cases hy;exact hp
theorem S5{α:Type}{Q:Nat->α->Prop}{l:List α}{k:Nat}(hk:l.length<=k)(hn:∀(i:Nat) y,i<k->l[i]? =some y->Q i y):∀(i:Nat) y,l[i]? =some y->Q i y:=fun i y hy=>hn i y (by have:=(aP.1 hy).1;omega) hy
abbrev iL:=@S5
theorem aAh{α:Type}{Q:Nat->α->Prop}{l:List α}{k:Nat}{x:α}(hx:l[k]? =some x)(hp:Q k x)(hn:∀(i:Nat) y,i<k->l[i]? =some y->Q i y):∀(i:Nat) y,i<k+1->l[i]? =some y->Q i y:=by
 intro i y hi hy;rcases aD i k with h|h
 ·exact hn i y h hy
 ·have:i=k:=by omega
  subst this;rw[hx]at hy;cases hy;exact hp
abbrev iM:=@aAh
theorem aAJ(l:List Dv)(f:FuncId)(cs:List AV)(p:Dv->Bool)(hF:∀(x:Dv) (K:AV->List Vm.Obj->Prop),K (.sb (p x)) []->AC f [pY x,.fp cs] [] K)(hl:l.length<1000000){K:KT}(hK:K (.v (.int .i64 (jM p l))) []):
  AC 265 [.lst (l.map pY),.fn (.func f) [] [.fp cs]] [] K:=by
 refine aHH rfl rfl ?_
 iterate 3 (all_goals((conv=>whnf);first|refine zG ?_|apply zA|intro h|exact zT|skip))
 refine gV Nat (fun k=>⟨0,[],[(0,.lst (l.map pY)),(1,.fn (.func f) [] [.fp cs]),(7,.v (.int .i64 (l.map pY).length)),(8,.v (.int .i64 k))]⟩) (fun k=>k<=l.length/\∀(i:Nat) y,i<k->l[i]? =some y->p y=false) (fun k=>l.length-k) 0 ?_ ?_ ?_
 ·exact⟨aK _,fun i y hi=>absurd hi (bD _)⟩
 ·exact⟨[],rfl,⟨rfl,rfl,rfl,rfl,trivial⟩,trivial⟩
 ·intro k ⟨hk,hinv⟩;rcases aD k l.length with hkl|hkl
  ·obtain⟨r,hr⟩:=gex hkl
   iterate 12 (all_goals((conv=>whnf);first|(with_reducible first|refine iI hkl ?_|refine iH hr ?_|refine hF r _ ?_)|refine zG ?_|apply zA|intro h|exact zT|skip))
   ·rw[jN hr h hinv]at hK;exact hK
   ·exact⟨k+1,⟨by omega,jJ hr h hinv⟩,by omega,⟨[],rfl,⟨rfl,rfl,rfl,rfl,trivial⟩,trivial⟩⟩
  ·iterate 6 (all_goals((conv=>whnf);first|refine zG ?_|apply zA|intro h|exact zT|skip))
   rw[jS (iL hkl hinv)]at hK;exact hK
theorem Vv(l:List Ed)(f:FuncId)(cs:List AV)(p:Ed->Bool)(hF:∀(x:Ed) (K:AV->List Vm.Obj->Prop),K (.sb (p x)) []->AC f [lY x,.fp cs] [] K)(hl:l.length<1000000){K:KT}(hK:K (.v (.int .i64 (jM p l))) []):
  AC 199 [.lst (l.map lY),.fn (.func f) [] [.fp cs]] [] K:=by
 refine Ru rfl rfl ?_
 iterate 3 (all_goals((conv=>whnf);first|refine zG ?_|apply zA|intro h|exact zT|skip))
 refine gV Nat (fun k=>⟨0,[],[(0,.lst (l.map lY)),(1,.fn (.func f) [] [.fp cs]),(7,.v (.int .i64 (l.map lY).length)),(8,.v (.int .i64 k))]⟩) (fun k=>k<=l.length/\∀(i:Nat) y,i<k->l[i]? =some y->p y=false) (fun k=>l.length-k) 0 ?_ ?_ ?_
 ·exact⟨aK _,fun i y hi=>absurd hi (bD _)⟩
 ·exact⟨[],rfl,⟨rfl,rfl,rfl,rfl,trivial⟩,trivial⟩
 ·intro k ⟨hk,hinv⟩;rcases aD k l.length with hkl|hkl
  ·obtain⟨r,hr⟩:=gex hkl
   iterate 12 (all_goals((conv=>whnf);first|(with_reducible first|refine iI hkl ?_|refine iH hr ?_|refine hF r _ ?_)|refine zG ?_|apply zA|intro h|exact zT|skip))
   ·rw[jN hr h hinv]at hK;exact hK
   ·exact⟨k+1,⟨by omega,jJ hr h hinv⟩,by omega,⟨[],rfl,⟨rfl,rfl,rfl,rfl,trivial⟩,trivial⟩⟩
  ·iterate 6 (all_goals((conv=>whnf);first|refine zG ?_|apply zA|intro h|exact zT|skip))
   rw[jS (iL hkl hinv)]at hK;exact hK
theorem aKl(l:List Pf)(f:FuncId)(cs:List AV)(p:Pf->Bool)(hF:∀(x:Pf) (K:AV->List Vm.Obj->Prop),K (.sb (p x)) []->AC f [lN x,.fp cs] [] K)(hl:l.length<1000000){K:KT}(hK:K (.v (.int .i64 (jM p l))) []):
  AC 266 [.lst (l.map lN),.fn (.func f) [] [.fp cs]] [] K:=by
 refine aPi rfl rfl ?_
 iterate 3 (all_goals((conv=>whnf);first|refine zG ?_|apply zA|intro h|exact zT|skip))
 refine gV Nat (fun k=>⟨0,[],[(0,.lst (l.map lN)),(1,.fn (.func f) [] [.fp cs]),(7,.v (.int .i64 (l.map lN).length)),(8,.v (.int .i64 k))]⟩) (fun k=>k<=l.length/\∀(i:Nat) y,i<k->l[i]? =some y->p y=false) (fun k=>l.length-k) 0 ?_ ?_ ?_
 ·exact⟨aK _,fun i y hi=>absurd hi (bD _)⟩
 ·exact⟨[],rfl,⟨rfl,rfl,rfl,rfl,trivial⟩,trivial⟩
 ·intro k ⟨hk,hinv⟩;rcases aD k l.length with hkl|hkl
  ·obtain⟨r,hr⟩:=gex hkl
   iterate 12 (all_goals((conv=>whnf);first|(with_reducible first|refine iI hkl ?_|refine iH hr ?_|refine hF r _ ?_)|refine zG ?_|apply zA|intro h|exact zT|skip))
   ·rw[jN hr h hinv]at hK;exact hK
   ·exact⟨k+1,⟨by omega,jJ hr h hinv⟩,by omega,⟨[],rfl,⟨rfl,rfl,rfl,rfl,trivial⟩,trivial⟩⟩
  ·iterate 6 (all_goals((conv=>whnf);first|refine zG ?_|apply zA|intro h|exact zT|skip))
   rw[jS (iL hkl hinv)]at hK;exact hK
def yS(x:Int):AV:=.v (.int .u64 x)
abbrev nV(l:List Int):AV:=.lst (l.map yS)
def ins:List Int->Int->List Int
 |[],v=>[v]
 |x::xs,v=>if x<v then x::ins xs v else if x=v then x::xs else v::x::xs
theorem Rc:∀(l:List Int) (v:Int) (k:Nat),(∀x,x∈l.take k->x<v)->ins l v=l.take k++ins (l.drop k) v
 |[],v,k,h=>by simp[ins]
 |x::xs,v,0,h=>by simp
 |x::xs,v,k+1,h=>by
  have hx:x<v:=h x zx;rw[gK,List.drop_succ_cons,eW,<-Rc xs v k (fun y hy=>h y (by simp[hy]))];simp[ins,hx]
def insT(l:List Int)(v top:Int):List Int:=if top<v then l else ins l v
theorem c51(l:List Int)(v top:Int)(ht0:0<=top)(ht:top<=4294967295)(hl:l.length<1000000){K:KT}(hK:K (nV (insT l v top)) []):
  AC 276 [nV l,.v (.int .u64 v),.v (.int .u32 top)] [] K:=by
 refine aWY rfl rfl ?_;conv=>whnf
 refine xG (r:=top) zo zo zo ?_;conv=>whnf
 refine sG (fun h=>?_) (fun h=>?_)
 ·conv=>whnf
  rw[insT,aH h]at hK;exact hK
 ·rw[insT,aF h]at hK;conv=>whnf
  refine gV Nat (fun k=>⟨0,[],[(0,nV l),(1,.v (.int .u64 v)),(7,.v (.int .i64 k))]⟩) (fun k=>k<=l.length/\∀x,x∈l.take k->x<v) (fun k=>l.length-k) 0 ?_ ?_ ?_
  ·exact⟨by omega,by simp⟩
  ·exact⟨[],rfl,⟨rfl,rfl,rfl,trivial⟩,trivial⟩
  ·intro k ⟨hk,hinv⟩;have hk2:=Rc l v k hinv;conv=>whnf
   refine sG (fun h=>?_) (fun h=>?_)
   ·have hkl:k<l.length:=by simp at h;omega
    conv=>whnf
    refine iI hkl ?_;refine nY hkl (fun x hx=>?_);conv=>whnf
    refine sG (fun h1=>?_) (fun h1=>?_)
    ·conv=>whnf
     refine jO (r:=((k+1:Nat):Int)) zo zo zo ?_;conv=>whnf
     refine⟨k+1,⟨by omega,?_⟩,by omega,⟨[],rfl,⟨rfl,rfl,rfl,trivial⟩,trivial⟩⟩;intro y hy;rw[bE,hx]at hy;simp only[eH,aX,aU]at hy;rcases hy with hy|rfl
     ·exact hinv y hy
     ·exact h1
    ·conv=>whnf
     refine aLh h ?_;conv=>whnf
     refine iI hkl ?_;refine iH hx ?_;conv=>whnf
     refine sG (fun h2=>?_) (fun h2=>?_)
     ·conv=>whnf
      have e:ins l v=l:=by
       rw[hk2,bA hkl];have:l[k]=x:=by rw[aE hkl]at hx;exact bB hx
       rw[this,h2];simp only[ins,Int.lt_irrefl,if_false,if_true];rw[<-h2,<-this,<-bA hkl,cU]
      rw[e]at hK;exact hK
     ·conv=>whnf
      have fin:K (.lst ([]++(List.take (k-0) (List.drop 0 l)).map yS++[yS v]++(List.take (l.length-k) (List.drop k l)).map yS)) []:=by
       have e:[]++(List.take (k-0) (List.drop 0 l)).map yS++[yS v]++(List.take (l.length-k) (List.drop k l)).map yS=(ins l v).map yS:=by
        have e2:ins (l.drop k) v=v::l.drop k:=by
         rw[bA hkl];have:l[k]=x:=by rw[aE hkl]at hx;exact bB hx
         rw[this];simp only[ins,h1,h2,if_false]
        rw[hk2,e2];simp[aW]
       rw[e];exact hK
      (repeat' ((conv=>whnf);first|(with_reducible first|refine iF 0 k rfl rfl zo (by simp;omega) ?_|refine iF k l.length rfl zx zo zx ?_|refine mQ zo ?_|refine Ob.intro (fun x hx=>by obtain⟨y,_,rfl⟩:=bQ.1 hx;rfl) ?_|refine Ob.intro zk ?_)|refine zG ?_|apply zA|intro h|exact zT));all_goals conv=>whnf
      all_goals exact fin
   ·(conv=>whnf)
    have hkl:k=l.length:=by simp at h;omega
    refine aAw h ?_;(conv=>whnf)
    have fin:K (.lst ([]++(List.take (k-0) (List.drop 0 l)).map yS++[yS v]++(List.take (l.length-k) (List.drop k l)).map yS)) []:=by
     have e:[]++(List.take (k-0) (List.drop 0 l)).map yS++[yS v]++(List.take (l.length-k) (List.drop k l)).map yS=(ins l v).map yS:=by
      subst hkl;rw[hk2];simp[ins]
     rw[e];exact hK
    (repeat' ((conv=>whnf);first|(with_reducible first|refine iF 0 k rfl rfl zo (by simp;omega) ?_|refine iF k l.length rfl zx zo zx ?_|refine mQ zo ?_|refine Ob.intro (fun x hx=>by obtain⟨y,_,rfl⟩:=bQ.1 hx;rfl) ?_|refine Ob.intro zk ?_)|refine zG ?_|apply zA|intro h|exact zT));all_goals conv=>whnf
    all_goals exact fin
end Go.Proofs.YtgicddadddhonaaGreatDoor
