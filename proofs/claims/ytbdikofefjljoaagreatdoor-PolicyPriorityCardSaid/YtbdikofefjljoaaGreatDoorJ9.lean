/- An abstract machine over the loaded code, part Q: arguments of a law, as the machine sees them. -/
import Derived.OpenShut
import Derived.Test.YtbdikofefjljoaaGreatDoorProg
import Derived.Laws.StructEq
import Derived.Test.YtbdikofefjljoaaGreatDoorJ8
set_option linter.unusedVariables false
set_option linter.unusedSimpArgs false
set_option maxRecDepth 100000
set_option maxHeartbeats 4000000
namespace Go.Vm
open Go.ChangeShapes Go.WideShapes
def Ty(P:Program):Nat->TypeId->AV->Prop
 |0,_,_=>False
 |n+1,t,x=>match P.underlying t with
  |some .bool=>∃b,x=.sb b
  |some (.int k)=>∃i,x=.v (.int k i)/\k.min<=i/\i<=k.max
  |some .string=>∃s,x=.v (.string s)/\s.size<=maxLen
  |some (.slice e)=>∃xs,x=.lst xs/\xs.length<=maxLen/\∀y,y∈xs->Ty P n e y
  |some (.struct fs)=>∃ys:List AV,ys.length=fs.size/\x=.agg (ys.flatMap AV.cells)/\∀(i:Nat) f y,fs[i]? =some f->ys[i]? =some y->Ty P n f.type y
  |some (.array m e)=>∃ys:List AV,ys.length=m/\x=.agg (ys.flatMap AV.cells)/\∀y,y∈ys->Ty P n e y
  |_=>False
def fieldsLie(P:Program)(tot:Nat):Nat->List Field->Bool
 |off,[]=>decide (off=tot)
 |off,f::fs=>decide (f.offset=off)&&fieldsLie P tot (off+P.cellsOf f.type) fs
def tyOk(P:Program):Nat->TypeId->Bool
 |0,_=>false
 |n+1,t=>match P.underlying t with
  |some .bool=>true
  |some (.int _)=>true
  |some .string=>true
  |some (.slice e)=>decide (0<P.cellsOf e)&&tyOk P n e
  |some (.struct fs)=>fieldsLie P (P.cellsOf t) 0 fs.toList&&fs.toList.all fun f=>tyOk P n f.type
  |some (.array m e)=>decide (P.cellsOf t=m*P.cellsOf e)&&tyOk P n e
  |_=>false
def NoE:Nat->Prop:=fun _=>False
section
variable {H:Type} {enc:TypeId×Value->H} {P:Program} {w:World} {held:Bool}
theorem RL.app{E:Nat->Prop}{ι:Inj}{xs ys:List AV}{qs bs:List Value}(h1:RL E w ι xs qs.toArray)(h2:RL E w ι ys bs.toArray):RL E w ι (xs++ys) (qs++bs).toArray:=by
 have l1:xs.length=qs.length:=by simpa using h1.1
 have l2:ys.length=bs.length:=by simpa using h2.1
 refine⟨by simp[l1,l2],fun i x y hx hy=>?_⟩
 have hy:(qs++bs)[i]? =some y:=by simpa using hy
 rcases aD i xs.length with hi|hi
 ·rw[bC hi]at hx
  rw[bC zo]at hy
  exact h1.2 i x y hx (by simpa using hy)
 ·rw[bB hi]at hx
  rw[bB zo]at hy
  exact h2.2 (i-xs.length) x y hx (by rw[l1];simpa using hy)
theorem RL.one{E:Nat->Prop}{ι:Inj}{x:AV}{v:Value}(h:Rel E w ι x v):RL E w ι [x] [v].toArray:=
 ⟨rfl,fun i a b ha hb=>by
  match i with
  |0=>simp at ha hb;subst ha;subst hb;exact h
  |n+1=>simp at ha⟩
theorem parts_rel{fs:List Field}{cs:List Value}{tot:Nat}{Q:Field->AV->Prop}:∀{off:Nat},off<=tot->cs.length=tot->fieldsLie P tot off fs=true->
  (∀f,f∈fs->∃y,Q f y/\RL NoE w noInj y.cells ((cs.drop f.offset).take (P.cellsOf f.type)).toArray)->
  ∃ys:List AV,ys.length=fs.length/\RL NoE w noInj (ys.flatMap AV.cells) (cs.drop off).toArray/\∀(i:Nat) f y,fs[i]? =some f->ys[i]? =some y->Q f y:=by
 induction fs with
 |nil=>
  intro off hoff hl hf _
  simp only[fieldsLie,aI]at hf
  refine⟨[],rfl,⟨by simp;omega,fun i x y hx=>by simp at hx⟩,fun i f y hf=>by simp at hf⟩
 |cons f fs ih=>
  intro off hoff hl hf h
  simp only[fieldsLie,aF,aI]at hf
  obtain⟨h1,h2⟩:=hf
  obtain⟨y,q1,q2⟩:=h f zx
  have hle:off+P.cellsOf f.type<=tot:=by
   have mono:∀(fs:List Field) (o:Nat),fieldsLie P tot o fs=true->o<=tot:=by
    intro fs
    induction fs with
    |nil=>intro o ho;simp only[fieldsLie,aI]at ho;omega
    |cons g gs ihg=>
     intro o ho
     simp only[fieldsLie,aF,aI]at ho
     have:=ihg _ ho.2
     omega
   exact mono fs _ h2
  obtain⟨ys,a1,a2,a3⟩:=ih hle hl h2 (fun g hg=>h g (by simp[hg]))
  refine⟨y::ys,by simp[a1],?_,fun i g z hg hz=>?_⟩
  ·rw[h1]at q2
   have e:cs.drop off=(cs.drop off).take (P.cellsOf f.type)++cs.drop (off+P.cellsOf f.type):=by
    rw[<-List.drop_drop,cS]
   rw[e,cX]
   exact q2.app a2
  ·cases i with
   |zero=>simp at hg hz;subst hg;subst hz;exact q1
   |succ i=>exact a3 i g z (by simpa using hg) (by simpa using hz)
theorem rows_rel{m n:Nat}{cs:List Value}{Q:AV->Prop}(hl:cs.length=m*n)(h:∀i,i<m->∃y,Q y/\RL NoE w noInj y.cells ((cs.drop (i*n)).take n).toArray):
  ∃ys:List AV,ys.length=m/\RL NoE w noInj (ys.flatMap AV.cells) cs.toArray/\∀y,y∈ys->Q y:=by
 induction m generalizing cs with
 |zero=>
  have:cs=[]:=dX zo
  subst this
  exact⟨[],rfl,⟨rfl,fun i x y hx=>by simp at hx⟩,fun y hy=>by simp at hy⟩
 |succ m ih=>
  obtain⟨y,q1,q2⟩:=h 0 zo
  obtain⟨ys,a1,a2,a3⟩:=ih (cs:=cs.drop n) (by rw[eU,hl,eX];omega) (fun i hi=>by
   obtain⟨z,b1,b2⟩:=h (i+1) zo
   refine⟨z,b1,?_⟩
   rw[List.drop_drop,show n+i*n=(i+1)*n by rw[eX];omega]
   exact b2)
  refine⟨y::ys,by simp[a1],?_,fun z hz=>?_⟩
  ·have e:cs=cs.take n++cs.drop n:=(cS _ _).symm
   rw[e,cX]
   simp only[fF,cA]at q2
   exact q2.app a2
  ·rcases aS.1 hz with rfl|hz
   ·exact q1
   ·exact a3 z hz
theorem list_of_fun{n:Nat}{Q:Nat->AV->Prop}(h:∀i,i<n->∃y,Q i y):∃ys:List AV,ys.length=n/\∀(i:Nat) y,ys[i]? =some y->Q i y:=by
 induction n with
 |zero=>exact⟨[],rfl,fun i y hy=>by simp at hy⟩
 |succ n ih=>
  obtain⟨ys,h1,h2⟩:=ih (fun i hi=>h i zo)
  obtain⟨y,hy⟩:=h n zo
  refine⟨ys++[y],by simp[h1],fun i z hz=>?_⟩
  rcases aD i ys.length with hi|hi
  ·rw[bC hi]at hz;exact h2 i z hz
  ·rw[bB hi]at hz
   have:i-ys.length=0:=by
    rcases dJ (i-ys.length)with h0|h0
    ·exact h0
    ·rw[bL (by simp;omega)]at hz;cases hz
   rw[this]at hz
   simp at hz
   subst hz
   have:i=n:=by omega
   subst this
   exact hy
theorem rel_of_trod:∀(d:Nat) {t:TypeId} {fuel:Nat} {cs:List Value} {x:DataW H×List MemPlace},tyOk P d t=true->DataW.trod enc P w 0 (fun _=>true) held fuel t cs=some x->
  ∃a,Ty P d t a/\RL NoE w noInj a.cells cs.toArray
 |0,t,fuel,cs,x,ht,_=>by simp[tyOk]at ht
 |d+1,t,fuel,cs,x,ht,h=>by
  simp only[tyOk]at ht
  simp only[Ty]
  cases hu:P.underlying t with
  |none=>simp[hu]at ht
  |some D=>
   simp only[hu]at ht⊢
   cases D with
   |bool=>
    obtain⟨b,rfl,_⟩:=DataW.trod_bool hu h
    exact⟨.sb b,⟨b,rfl⟩,RL.one (.sb b)⟩
   |int k=>
    obtain⟨n,rfl,_,hw⟩:=DataW.trod_int hu h
    simp only[Lit.wf,aF,aI]at hw
    exact⟨.v (.int k n),⟨n,rfl,hw⟩,RL.one (.v _)⟩
   |string=>
    obtain⟨s,rfl,_,hs⟩:=DataW.trod_string hu h
    exact⟨.v (.string s),⟨s,rfl,hs⟩,RL.one (.v _)⟩
   |slice e=>
    simp only[aF,aI]at ht
    rcases DataW.trod_slice hu h with⟨rfl,_⟩|⟨a,len,cap,elems,rest,n,_,rfl,_,hb,hlc,hcm,hel,hget,_,_⟩
    ·exact⟨.lst [],⟨[],rfl,by simp,fun y hy=>by simp at hy⟩,RL.one (.lnil none 0)⟩
    ·have each:∀i,i<len->∃y,Ty P d e y/\∃cs',w.cells? 0 (a.add (i*P.cellsOf e)) (P.cellsOf e)=some cs'/\RL NoE w noInj y.cells cs'.toArray:=by
      intro i hi
      have hx:=hget i hi
      rw[aB (show i<elems.length by omega),Option.bind_eq_some_iff]at hx
      obtain⟨cs',h1,h2⟩:=hx
      obtain⟨y,h3,h4⟩:=rel_of_trod d ht.2 h2
      exact⟨y,h3,cs',h1,h4⟩
     obtain⟨ys,l1,l2⟩:=list_of_fun each
     refine⟨.lst ys,⟨ys,rfl,by omega,fun y hy=>?_⟩,RL.one ?_⟩
     ·obtain⟨i,hi⟩:=List.getElem?_of_mem hy
      exact(l2 i y hi).1
     ·rcases dJ len with h0|h0
      ·have:ys=[]:=dX zo
       subst this;subst h0
       exact .lnil _ _
      ·have hcell:∀(i:Nat) y (j:Nat) c,ys[i]? =some y->y.cells[j]? =some c->∃u,w.cell? ((a.add (i*P.cellsOf e)).add j)=some u/\Rel NoE w noInj c u:=by
        intro i y j c hy hc
        obtain⟨_,cs',c1,c2⟩:=l2 i y hy
        obtain⟨_,c3,c4⟩:=World.cells?_some c1
        have hj:j<y.cells.length:=(aM.1 hc).1
        have hj':j<cs'.length:=by have:=c2.1;simp at this;omega
        rw[c4 j zo,aB hj']
        exact⟨_,rfl,c2.2 j c _ hc (by simp[hj'])⟩
       have hlenc:∀(i:Nat) y,ys[i]? =some y->y.cells.length=P.cellsOf e:=by
        intro i y hy
        obtain⟨_,cs',c1,c2⟩:=l2 i y hy
        obtain⟨_,c3,c4⟩:=World.cells?_some c1
        have:=c2.1;simp at this;omega
       have h00:ys[0]? =some (ys[0]'zo):=aB _
       have hc0:((ys[0]'zo).cells)[0]? =some (((ys[0]'zo).cells)[0]'(by rw[hlenc 0 _ h00];exact ht.1)):=aB _
       obtain⟨u0,hu0,_⟩:=hcell 0 _ 0 _ h00 hc0
       have hs:a.spot=none:=by
        simp only[fF,Addr.add,if_true]at hu0
        cases hsp:a.spot with
        |none=>rfl
        |some k=>
         unfold World.cell? at hu0
         rw[hsp]at hu0
         split at hu0
         ·simp at hu0
         ·cases hu0
       obtain⟨b,off,spot⟩:=a
       simp only at hs
       subst hs
       have hadd:∀i j:Nat,((⟨b,off,none⟩:Addr).add (i*P.cellsOf e)).add j=⟨b,off+i*P.cellsOf e+j,none⟩:=by
        intro i j
        simp only[Addr.add]
        by_cases h1:i*P.cellsOf e=0<;>by_cases h2:j=0<;>simp[h1,h2]
       refine .lst ys b off len cap (P.cellsOf e) (fun hh=>hh) ?_ l1.symm hlc hlenc (fun i j=>(w.cell? ⟨b,off+i*P.cellsOf e+j,none⟩).getD (.bool false)) (fun i y j c hy hc=>?_) (fun i y j c hy hc=>?_)
       ·rw[hadd]at hu0
        exact lt_of_cell (a:=⟨b,_,none⟩) (by rw[hu0];rfl)
       ·obtain⟨u,e1,_⟩:=hcell i y j c hy hc
        rw[hadd]at e1
        rw[e1];rfl
       ·obtain⟨u,e1,e2⟩:=hcell i y j c hy hc
        rw[hadd]at e1
        simp only[e1,cW]
        exact e2
   |struct fs=>
    simp only[aF,bY]at ht
    obtain⟨xs,n,_,_,hl,_,hf⟩:=DataW.trod_struct hu h
    obtain⟨ys,a1,a2,a3⟩:=parts_rel (w:=w) (cs:=cs) (Q:=fun f y=>Ty P d f.type y) (aL _) hl ht.1 (fun f hf'=>by
     obtain⟨i,hi⟩:=List.getElem?_of_mem hf'
     have hi':fs[i]? =some f:=by simpa using hi
     have hlt:i<fs.size:=(eT.1 hi').1
     have e1:=hf i f hi'
     rw[aB (show i<xs.length by omega)]at e1
     exact rel_of_trod d (ht.2 f hf') e1)
    refine⟨.agg (ys.flatMap AV.cells),⟨ys,by simpa using a1,rfl,fun i f y hfi hy=>a3 i f y (by simpa using hfi) hy⟩,?_⟩
    simpa[AV.cells]using a2
   |array m e=>
    simp only[aF,aI]at ht
    obtain⟨xs,n,_,_,hl,hlx,hf⟩:=DataW.trod_array hu h
    obtain⟨ys,a1,a2,a3⟩:=rows_rel (w:=w) (cs:=cs) (Q:=fun y=>Ty P d e y) (hl.trans ht.1) (fun i hi=>by
     have e1:=hf i hi
     rw[aB (show i<xs.length by omega)]at e1
     exact rel_of_trod d ht.2 e1)
    exact⟨.agg (ys.flatMap AV.cells),⟨ys,a1,rfl,a3⟩,a2⟩
   |_=>simp at ht
theorem rel_of_arg{d:Nat}{t:TypeId}{v:Value}{x:DataW H}{ps:List MemPlace}{base:Nat}(ht:tyOk P d t=true)(hval:Value.okWide P w .any base t v)(h:DataW.Trod enc P w 0 (fun _=>true) held t v x ps):
  ∃a,Ty P d t a/\Rel NoE w noInj a v:=by
 obtain⟨fuel,hf⟩:=h
 obtain⟨a,h1,h2⟩:=rel_of_trod d ht hf
 refine⟨a,h1,?_⟩
 have single:∀{u:Value},v=u->u.cells=#[u]->a.cells=[a]->Rel NoE w noInj a v:=by
  rintro u rfl e1 e2
  rw[e1,e2]at h2
  exact h2.2 0 a v rfl rfl
 cases d with
 |zero=>exact h1.elim
 |succ d=>
  simp only[Ty]at h1
  cases hu:P.underlying t with
  |none=>simp[hu]at h1
  |some D=>
   simp only[hu]at h1
   cases D with
   |bool=>
    obtain⟨b,rfl⟩:=h1
    obtain⟨b',hv⟩:=okWide_bool hu hval
    exact single hv rfl rfl
   |int k=>
    obtain⟨b,rfl,_⟩:=h1
    obtain⟨b',hv⟩:=okWide_int hu hval
    exact single hv rfl rfl
   |string=>
    obtain⟨b,rfl,_⟩:=h1
    obtain⟨b',hv⟩:=okWide_string hu hval
    exact single hv rfl rfl
   |slice e=>
    obtain⟨b,rfl,_⟩:=h1
    obtain⟨_,_,_,hv⟩:=okWide_slice hu hval
    exact single hv rfl rfl
   |struct fs=>
    obtain⟨ys,_,rfl,_⟩:=h1
    obtain⟨cs,rfl,_⟩:=okWide_struct hu hval
    exact .agg _ _ (by simpa[AV.cells,Value.cells]using h2.1) (by simpa[AV.cells,Value.cells]using h2.2)
   |array m e=>
    obtain⟨ys,_,rfl,_⟩:=h1
    simp only[Value.okWide,hu]at hval
    obtain⟨cs,rfl,_⟩:=hval
    exact .agg _ _ (by simpa[AV.cells,Value.cells]using h2.1) (by simpa[AV.cells,Value.cells]using h2.2)
   |_=>exact h1.elim
def Tys(P:Program)(d:Nat):List TypeId->List AV->Prop
 |[],[]=>True
 |t::ts,a::qs=>Ty P d t a/\Tys P d ts qs
 |_,_=>False
theorem rel_of_args{d base:Nat}:∀{ts:List TypeId} {vs:List Value} {xs:List (DataW H)} {ps:List MemPlace},(ts.all fun t=>tyOk P d t)=true->
  (∀(j:Nat) t v,ts[j]? =some t->vs[j]? =some v->Value.okWide P w .any base t v)->DataW.TrodAll enc P w 0 (fun _=>true) held ts vs xs ps->
  ∃qs,Tys P d ts qs/\RL NoE w noInj qs vs.toArray
 |[],vs,xs,ps,_,_,h=>by
  match vs,xs,h with
  |[],[],h=>exact⟨[],trivial,⟨rfl,fun i x y hx=>by simp at hx⟩⟩
 |t::ts,vs,xs,ps,ht,hval,h=>by
  match vs,xs,h with
  |v::vs,x::xs,h=>
   obtain⟨p,q,h1,h2,rfl⟩:=h
   simp only[List.all_cons,aF]at ht
   obtain⟨a,a1,a2⟩:=rel_of_arg ht.1 (hval 0 t v rfl rfl) h1
   obtain⟨qs,b1,b2⟩:=rel_of_args (base:=base) ht.2 (fun j t v hj hv=>hval (j+1) t v hj hv) h2
   exact⟨a::qs,⟨a1,b1⟩,RL.app (RL.one a2) b2⟩
theorem law_contract{f:FuncId}{fn:Func}{s:ChangeSpec}{d base:Nat}{t:TypeId}(hl:laidOutB P=true)(hp:parsOk P fn.params.toList=true)(hty:(fn.params.toList.all fun t=>tyOk P d t)=true)(hv:s.vars=[])
  (hr:fn.resultTypes=#[t])(ht:P.underlying t=some .bool)(hs:∀ds:List (DataW H),ds.length=fn.params.size->s.fn H ds={results:=[.lit (.bool true)],args:=ds})
  (hc:∀qs,Tys P d fn.params.toList qs->ACall P f qs [] fun r _=>r=.sb true\/r=.v (.bool true))
  {W:World}(hg:GlobOk NoE W){args:Array Value}{ds gs:List (DataW H)}{before:List MemPlace}(hval:∀(j:Nat) t v,fn.params[j]? =some t->args[j]? =some v->Value.okWide P W .any base t v)
  (hW:DataW.Whole enc P fn.params.toList s.vars false W args.toList ds gs before):
  Calls P f args W fun e W'=>∃v,e=.returned v/\s.post enc P fn false true false false W args v W':=by
 have hW1:=hW
 obtain⟨pa,pv,hA,hV,hps,_,_⟩:=hW
 have hgs:gs=[]:=by
  rw[hv]at hV
  obtain⟨rfl,rfl⟩:=trodVars_none hV
  rfl
 subst hgs
 obtain⟨qs,h1,h2⟩:=rel_of_args (d:=d) (base:=base) hty (fun j t v hj hv=>hval j t v (by simpa using hj) (by simpa using hv)) hA
 have hlen:∀{ts:List TypeId} {vs:List Value} {xs:List (DataW H)} {ps:List MemPlace},DataW.TrodAll enc P W 0 (fun _=>true) true ts vs xs ps->xs.length=ts.length:=by
  intro ts
  induction ts with
  |nil=>intro vs xs ps h;match vs,xs,h with|[],[],_=>rfl
  |cons t ts ih=>
   intro vs xs ps h
   match vs,xs,h with
   |v::vs,x::xs,h=>
    obtain⟨p,q,_,h2,_⟩:=h
    simp[ih h2]
 have hl2:=hlen hA
 refine(ACall.law (hc qs h1) hg (show RL NoE W noInj qs args by simpa using h2)).mono ?_
 rintro e W' ⟨rfl,hst⟩
 exact⟨_,rfl,law_post hW1 hst hl hp hv (by rw[bJ];exact hs ds (by simpa using hl2)) hr ht⟩
end
end Go.Vm
namespace Go.Proofs.YtbdikofefjljoaaGreatDoor
open Go Go.Vm
abbrev AC:=ACall Tryz.prog
noncomputable def gpMask:Ctx:={N:=7}
noncomputable def bpMask:Code:=bdy Tryz.f223
abbrev ofpMask:=@ofC Tryz.prog gpMask 223 Tryz.f223 bpMask Tryz.func223 zk zk zk zk
noncomputable def gpVal:Ctx:={N:=20,plan:=at1 1 (some (ln [1,3,5,7,9,11,13,15,17,19,21,23,25,26,29,31,33,35])) (fun _=>none)}
noncomputable def bpVal:Code:=bdy Tryz.f222
abbrev ofpVal:=@ofC Tryz.prog gpVal 222 Tryz.f222 bpVal Tryz.func222 zk zk zk zk
noncomputable def gpOf:Ctx:={N:=18,plan:=at1 3 (some (ln [1,3,5,7,9,11,12,15,17,19,20,23])) (fun _=>none)}
noncomputable def bpOf:Code:=bdy Tryz.f167
abbrev ofpOf:=@ofC Tryz.prog gpOf 167 Tryz.f167 bpOf Tryz.func167 zk zk zk zk
noncomputable def gpCon:Ctx:={N:=17,plan:=at1 1 (some (ln [1,2,5,7,9,11,17,19,12,15,21,23,25])) (fun _=>none)}
noncomputable def bpCon:Code:=bdy Tryz.f137
abbrev ofpCon:=@ofC Tryz.prog gpCon 137 Tryz.f137 bpCon Tryz.func137 zk zk zk zk
noncomputable def gpCov:Ctx:={N:=20}
noncomputable def bpCov:Code:=bdy Tryz.f286
abbrev ofpCov:=@ofC Tryz.prog gpCov 286 Tryz.f286 bpCov Tryz.func286 zk zk zk zk
noncomputable def gtOvl:Ctx:={N:=13}
noncomputable def btOvl:Code:=bdy Tryz.f230
abbrev oftOvl:=@ofC Tryz.prog gtOvl 230 Tryz.f230 btOvl Tryz.func230 zk zk zk zk
noncomputable def grSize:Ctx:={N:=7}
noncomputable def brSize:Code:=bdy Tryz.f192
abbrev ofrSize:=@ofC Tryz.prog grSize 192 Tryz.f192 brSize Tryz.func192 zk zk zk zk
noncomputable def grVal:Ctx:={N:=21,plan:=at1 1 (some (ln [1,3,5,7,9,11,13,15,17,19,21,23,25,27,28,31,33,35,37])) (fun _=>none)}
noncomputable def brVal:Code:=bdy Tryz.f191
abbrev ofrVal:=@ofC Tryz.prog grVal 191 Tryz.f191 brVal Tryz.func191 zk zk zk zk
noncomputable def grOf:Ctx:={N:=20,plan:=at1 3 (some (ln [1,3,5,7,9,11,13,14,17,19,21,23,24,27])) (fun _=>none)}
noncomputable def brOf:Code:=bdy Tryz.f109
abbrev ofrOf:=@ofC Tryz.prog grOf 109 Tryz.f109 brOf Tryz.func109 zk zk zk zk
noncomputable def grCon:Ctx:={N:=25}
noncomputable def brCon:Code:=bdy Tryz.f94
abbrev ofrCon:=@ofC Tryz.prog grCon 94 Tryz.f94 brCon Tryz.func94 zk zk zk zk
noncomputable def grCov:Ctx:={N:=25}
noncomputable def brCov:Code:=bdy Tryz.f322
abbrev ofrCov:=@ofC Tryz.prog grCov 322 Tryz.f322 brCov Tryz.func322 zk zk zk zk
noncomputable def grMeet:Ctx:={N:=13}
noncomputable def brMeet:Code:=bdy Tryz.f279
abbrev ofrMeet:=@ofC Tryz.prog grMeet 279 Tryz.f279 brMeet Tryz.func279 zk zk zk zk
noncomputable def g33:Ctx:={N:=53,plan:=at1 4 (some (ln [1,3,5,7,9,11,13,15,17,19,21,23,25,27,29,31,33,35,37,39,41,43,45,47,49,51,53,55,57,59,61,63,65,67,69,71,73,75,77,79,81])) (fun _=>none)}
noncomputable def b33:Code:=bdy Tryz.f280
abbrev of33:=@ofC Tryz.prog g33 280 Tryz.f280 b33 Tryz.func280 zk zk zk zk
noncomputable def g34:Ctx:={N:=28}
noncomputable def b34:Code:=bdy Tryz.f256
abbrev of34:=@ofC Tryz.prog g34 256 Tryz.f256 b34 Tryz.func256 zk zk zk zk
noncomputable def g14:Ctx:={N:=8}
noncomputable def b14:Code:=bdy Tryz.f155
abbrev of14:=@ofC Tryz.prog g14 155 Tryz.f155 b14 Tryz.func155 zk zk zk zk
noncomputable def g26:Ctx:={N:=8}
noncomputable def b26:Code:=bdy Tryz.f281
abbrev of26:=@ofC Tryz.prog g26 281 Tryz.f281 b26 Tryz.func281 zk zk zk zk
noncomputable def g45:Ctx:={N:=44,plan:=at1 5 (some (ln [1,3,5,7,9,11,13,15,17,19,21])) (at1 6 (some (ln [1,3,5,7,9,11,13,15,19,21,23,25,27,29,31,33,16,34,37])) (fun _=>none)),hints:=at1 2 ([.freeze 5]) (fun _=>[])}
noncomputable def b45:Code:=bdy Tryz.f170
abbrev of45:=@ofC Tryz.prog g45 170 Tryz.f170 b45 Tryz.func170 zk zk zk zk
noncomputable def g51:Ctx:={N:=52,plan:=at1 8 (some (.one 1 true (.one 2 true (.one 3 true (.one 5 true (.one 8 true (.one 9 true (.one 10 true (.alt 0 (.alt 4 (ln [12,14,22,25]) (.alt 6 (ln [8,14,22,25]) (.stop))) (.alt 6 (ln [0,8,14,22,25]) (.stop))))))))))) (fun _=>none)}
noncomputable def b51:Code:=bdy Tryz.f246
abbrev of51:=@ofC Tryz.prog g51 246 Tryz.f246 b51 Tryz.func246 zk zk zk zk
noncomputable def g38:Ctx:={N:=123,plan:=at1 9 (some (ln [1,3,5,7,9,11,15,17,19,21,23,25,12,26,29,31])) (at1 20 (some (ln [1,3,5,7,9,11,13,15,17,19,21,23,25,27,29,31,33])) (fun _=>none)),hints:=at1 3 ([.virt 10 2]) (fun _=>[]),cut:=at1 9 (true) (at1 10 (true) (at1 11 (true) (at1 18 (true) (at1 19 (true) (fun _=>false)))))}
noncomputable def b38:Code:=bdy Tryz.f241
abbrev of38:=@ofC Tryz.prog g38 241 Tryz.f241 b38 Tryz.func241 zk zk zk zk
structure Rg where
 lo:Int
 hi:Int
 l0:0<=lo
 l1:lo<=4294967295
 h0:0<=hi
 h1:hi<=4294967295
deriving DecidableEq
noncomputable def encR(r:Rg):AV:=.agg [.v (.int .u32 r.lo),.v (.int .u32 r.hi)]
noncomputable abbrev encRs(l:List Rg):AV:=.lst (l.map encR)
def has(l:List Rg)(v:Int):Bool:=l.any fun r=>decide (r.lo<=v)&&decide (v<=r.hi)
theorem has_iff{l:List Rg}{v:Int}:has l v=true↔∃r,r∈l/\r.lo<=v/\v<=r.hi:=by
 simp[has,cI]
theorem has_succ{l:List Rg}{v:Int}{k:Nat}{r:Rg}(h:l[k]? =some r):has (l.take (k+1)) v=(has (l.take k) v||(decide (r.lo<=v)&&decide (v<=r.hi))):=by
 simp[has,bH,h]
theorem has_mem{l:List Rg}{v:Int}{k:Nat}{r:Rg}(h:l[k]? =some r)(h1:r.lo<=v)(h2:v<=r.hi):has l v=true:=has_iff.2 ⟨r,aG h,h1,h2⟩
theorem run_eq40(a b c d:Int)(w:World):(Op.equalIn 10000 111 (.agg #[.int .u32 a,.int .u32 b]) (.agg #[.int .u32 c,.int .u32 d])).run Tryz.prog w=.ok ((a==c)&&(b==d)) w:=by
 rw[run_equalIn_struct w 9999 111 _ _ zk zk]
 have hf:((Tryz.prog.fieldsOf 111).toList.map fun f=>(f.name== "_",f.type,f.offset))=[(false,55,0),(false,55,1)]:=by kernel_rfl
 generalize (Tryz.prog.fieldsOf 111).toList=fs at hf
 have hu:Tryz.prog.underlying 55=some (.int .u32):=by kernel_rfl
 have ha:∀w,(isAgg 55).run Tryz.prog w=.ok false w:=fun w=>by simp[isAgg,run_underlying hu]
 have hp:∀(xs:Array Value) (i:Nat) (v:Value),xs[i]? =some v->∀w,(part 55 xs i).run Tryz.prog w=.ok v w:=by
  intro xs i v h w
  simp[part,ha,h]
 have p1:=hp #[.int .u32 a,.int .u32 b] 0 (.int .u32 a) rfl
 have p2:=hp #[.int .u32 a,.int .u32 b] 1 (.int .u32 b) rfl
 have p3:=hp #[.int .u32 c,.int .u32 d] 0 (.int .u32 c) rfl
 have p4:=hp #[.int .u32 c,.int .u32 d] 1 (.int .u32 d) rfl
 cases fs with
 |nil=>simp at hf
 |cons f fs=>
  cases fs with
  |nil=>simp at hf
  |cons g fs=>
   cases fs with
   |cons g fs=>simp at hf
   |nil=>
    simp only[aW,bN,List.cons.injEq,Prod.mk.injEq,beq_eq_false_iff_ne,and_true]at hf
    obtain⟨⟨h1,h2,h3⟩,h4,h5,h6⟩:=hf
    simp only[Op.eqFields,h1,h2,h3,h4,h5,h6,ne_eq,not_false_eq_true,if_true,Sem.run_bind,p1,p2,p3,p4,Result.andThen_ok,run_equalIn_int _ 9998 55 .u32 .u32 _ _ hu,Sem.run_ite,Sem.run_pure]
    cases h:a==c<;>cases h':b==d<;>simp
theorem eqv_R{r s:Rg}{K:Bool->Prop}(hk:K (decide (r=s))):EqV Tryz.prog 111 [.v (.int .u32 r.lo),.v (.int .u32 r.hi)] [.v (.int .u32 s.lo),.v (.int .u32 s.hi)] K:=by
 refine EqV.intro [.int .u32 r.lo,.int .u32 r.hi] [.int .u32 s.lo,.int .u32 s.hi] (decide (r=s)) rfl rfl zk (fun w=>?_) hk
 rw[run_eq40]
 have:((r.lo==s.lo)&&(r.hi==s.hi))=decide (r=s):=by
  cases r;cases s
  rw[bD]
  simp
 rw[this]
theorem c34(l:List Rg)(v:Int)(hl:l.length<1000000){K:KT}(hK:K (.sb (has l v)) []):AC 256 [encRs l,.v (.int .u32 v)] [] K:=by
 refine gO (of34 rfl rfl ?_)
 conv=>whnf
 refine gL Nat (fun k=>⟨0,[],[(0,encRs l),(1,.v (.int .u32 v)),(5,.v (.int .i64 k))]⟩) (fun k=>k<=l.length/\has (l.take k) v=false) (fun k=>l.length-k) 0 ?_ ?_ ?_
 ·exact⟨by omega,by simp[has]⟩
 ·exact⟨[],rfl,⟨rfl,rfl,rfl,trivial⟩,trivial⟩
 ·intro k ⟨hk,hinv⟩
  have next:∀{σ:St} {r:Rg},l[k]? =some r->¬(r.lo<=v/\v<=r.hi)->k<l.length->Le 0 ⟨0,[],[(0,encRs l),(1,.v (.int .u32 v)),(5,.v (.int .i64 ((k+1:Nat):Int)))]⟩ σ->
    ∃g',(g'<=l.length/\has (l.take g') v=false)/\l.length-g'<l.length-k/\Le 0 ⟨0,[],[(0,encRs l),(1,.v (.int .u32 v)),(5,.v (.int .i64 (g':Int)))]⟩ σ:=by
   intro σ r hr hn hkl hle
   refine⟨k+1,⟨by omega,?_⟩,by omega,hle⟩
   rw[has_succ hr,hinv]
   simp only[fM,fH,decide_eq_false_iff_not]
   omega
  conv=>whnf
  refine br_dec (fun h=>?_) (fun h=>?_)
  ·have hkl:k<l.length:=by simp at h;omega
   conv=>whnf
   refine hJ hkl ?_
   refine ix_any hkl (fun r hr=>?_)
   conv=>whnf
   refine br_dec (fun h1=>?_) (fun h1=>?_)
   ·conv=>whnf
    refine hJ hkl ?_
    refine gZ hr ?_
    conv=>whnf
    refine br_dec (fun h2=>?_) (fun h2=>?_)
    ·conv=>whnf
     refine .inl ⟨true,rfl,?_⟩
     rw[has_mem hr h1 h2]at hK
     exact hK
    ·conv=>whnf
     refine wr_i64 (r:=((k+1:Nat):Int)) zo zo zo ?_
     conv=>whnf
     exact next hr zo hkl ⟨[],rfl,⟨rfl,rfl,rfl,trivial⟩,trivial⟩
   ·conv=>whnf
    refine wr_i64 (r:=((k+1:Nat):Int)) zo zo zo ?_
    conv=>whnf
    exact next hr zo hkl ⟨[],rfl,⟨rfl,rfl,rfl,trivial⟩,trivial⟩
  ·conv=>whnf
   have hkl:k=l.length:=by simp at h;omega
   refine .inl ⟨false,rfl,?_⟩
   rw[hkl,cY]at hinv
   rw[hinv]at hK
   exact hK
end Go.Proofs.YtbdikofefjljoaaGreatDoor
namespace Go.Vm
theorem wrap_u32{n:Int}(h0:0<=n)(h1:n<=4294967295):IntKind.u32.wrap n=n:=by
 simp only[IntKind.wrap,IntKind.signed,IntKind.bits];simp;omega
theorem bv32{a:Nat}(h:a<4294967296):(BitVec.ofInt 32 (a:Int)).toNat=a:=by
 rw[BitVec.ofInt_natCast,BitVec.toNat_ofNat];exact Nat.mod_eq_of_lt h
theorem mask_not(k:Nat)(hk:k<=32): ~~~(BitVec.ofInt 32 (4294967296-((2^k:Nat):Int)))=BitVec.ofNat 32 (2^k-1):=by
 have:∀k:Fin 33,~~~(BitVec.ofInt 32 (4294967296-((2^k.val:Nat):Int)))=BitVec.ofNat 32 (2^k.val-1):=by decide
 exact this ⟨k,by omega⟩
theorem p32{k:Nat}(hk:k<=32):2^k<=4294967296:=fR (show 2>0 by decide) hk
theorem bb_andNot(a b:Int):bBits .andNot .u32 a b=IntKind.u32.wrap ((BitVec.ofInt 32 a&&& ~~~(BitVec.ofInt 32 b):BitVec 32).toNat:Int):=rfl
theorem bb_and(a b:Int):bBits .and .u32 a b=IntKind.u32.wrap ((BitVec.ofInt 32 a&&&BitVec.ofInt 32 b:BitVec 32).toNat:Int):=rfl
theorem bb_or(a b:Int):bBits .or .u32 a b=IntKind.u32.wrap ((BitVec.ofInt 32 a|||BitVec.ofInt 32 b:BitVec 32).toNat:Int):=rfl
theorem bits_andNot{a:Int}(h0:0<=a)(h1:a<=4294967295){k:Nat}(hk:k<=32):bBits .andNot .u32 a (4294967296-((2^k:Nat):Int))=a%((2^k:Nat):Int):=by
 obtain⟨n,rfl⟩:=dW h0
 have hp:=p32 hk
 have hk0:=fI k
 rw[bb_andNot,mask_not k hk,BitVec.toNat_and,bv32 zo,BitVec.toNat_ofNat,Nat.mod_eq_of_lt (show 2^k-1<2^32 by omega),Nat.and_two_pow_sub_one_eq_mod]
 have:=Nat.mod_le n (2^k)
 rw[wrap_u32 zo zo]
 omega
theorem nat_mask{n k:Nat}(hk:k<=32)(hn:n<4294967296):n&&&(4294967296-2^k)=n/2^k*2^k:=by
 have e:4294967296-2^k=(2^(32-k)-1)<<<k:=by
  rw[Nat.shiftLeft_eq,Nat.sub_mul,fT,<-Nat.pow_add,Nat.sub_add_cancel hk]
 rw[e,<-Nat.shiftLeft_eq,<-Nat.shiftRight_eq_div_pow]
 apply Nat.eq_of_testBit_eq
 intro i
 simp only[Nat.testBit_and,Nat.testBit_shiftLeft,Nat.testBit_shiftRight,Nat.testBit_two_pow_sub_one]
 by_cases hi:i≥k
 ·simp only[hi,decide_true,eF,show k+(i-k)=i by omega]
  by_cases h32:i-k<32-k
  ·simp[h32]
  ·have:n.testBit i=false:=Nat.testBit_lt_two_pow (cM hn (fR (show 2>0 by decide) (show 32<=i by omega)))
   simp[this]
 ·simp[hi]
theorem bits_and{a:Int}(h0:0<=a)(h1:a<=4294967295){k:Nat}(hk:k<=32):bBits .and .u32 a (4294967296-((2^k:Nat):Int))=a-a%((2^k:Nat):Int):=by
 obtain⟨n,rfl⟩:=dW h0
 have hp:=p32 hk
 have hk0:=fI k
 have e:(4294967296-((2^k:Nat):Int))=((4294967296-2^k:Nat):Int):=by omega
 rw[bb_and,e,BitVec.toNat_and,bv32 zo,bv32 zo,nat_mask hk zo]
 have h3:=Nat.div_add_mod n (2^k)
 rw[gG]at h3
 rw[wrap_u32 zo zo]
 omega
theorem bits_xorMask{k:Nat}(hk:k<=32):bBits .xor .u32 4294967295 (4294967296-((2^k:Nat):Int))=((2^k:Nat):Int)-1:=by
 have:∀k:Fin 33,bBits .xor .u32 4294967295 (4294967296-((2^k.val:Nat):Int))=((2^k.val:Nat):Int)-1:=by decide
 exact this ⟨k,by omega⟩
theorem bits_orLow{a:Int}(h0:0<=a)(h1:a<=4294967295){k:Nat}(hk:k<=32)(ha:a%((2^k:Nat):Int)=0):bBits .or .u32 a (((2^k:Nat):Int)-1)=a+(((2^k:Nat):Int)-1)/\a+(((2^k:Nat):Int)-1)<=4294967295:=by
 obtain⟨n,rfl⟩:=dW h0
 have hp:=p32 hk
 have hk0:=fI k
 have hn:n%2^k=0:=by omega
 have h3:=Nat.div_add_mod n (2^k)
 have hlt:n+(2^k-1)<4294967296:=by
  have e32:2^k*2^(32-k)=4294967296:=by rw[<-Nat.pow_add,show k+(32-k)=32 by omega]
  have:n/2^k<2^(32-k):=by
   rw[gJ hk0,gG,e32];omega
  have h5:2^k*(n/2^k+1)<=2^k*2^(32-k):=dT _ this
  rw[e32,fU]at h5
  omega
 have e:(((2^k:Nat):Int)-1)=((2^k-1:Nat):Int):=by omega
 have h4:n|||(2^k-1)=n+(2^k-1):=by
  have:=Nat.two_pow_add_eq_or_of_lt (i:=k) (b:=2^k-1) zo (n/2^k)
  rw[show n=2^k*(n/2^k) by omega]
  exact this.symm
 refine⟨?_,by omega⟩
 rw[bb_or,e,BitVec.toNat_or,bv32 zo,bv32 zo,h4,wrap_u32 zo zo]
 omega
theorem sb_take{α:Type}{f:α->AV}{l:List α}{k:Nat}{K:List AV->Prop}(h:k<=l.length)(hk:K ((l.take k).map f)):Sb 0 (k:Int) (l.map f).length fun a b=>Sl (l.map f) a (b-a) K:=
 gV 0 k rfl rfl zo (by simpa using h) (sl_map zo (by simpa using hk))
theorem fin_t{K:KT}{hs:List Obj}{X:Bool}(hK:K (.sb X) hs)(h:X=true):(∃b,AV.v (.bool true)=.v (.bool b)/\K (.sb b) hs)\/(∃b,AV.v (.bool true)=.sb b/\K (.sb b) hs):=.inl ⟨true,rfl,h▸hK⟩
theorem fin_f{K:KT}{hs:List Obj}{X:Bool}(hK:K (.sb X) hs)(h:X=false):(∃b,AV.v (.bool false)=.v (.bool b)/\K (.sb b) hs)\/(∃b,AV.v (.bool false)=.sb b/\K (.sb b) hs):=.inl ⟨false,rfl,h▸hK⟩
theorem fin_s{K:KT}{hs:List Obj}{X b:Bool}(hK:K (.sb X) hs)(h:X=b):(∃c,AV.sb b=.v (.bool c)/\K (.sb c) hs)\/(∃c,AV.sb b=.sb c/\K (.sb c) hs):=.inr ⟨b,rfl,h▸hK⟩
end Go.Vm
namespace Go.Proofs.YtbdikofefjljoaaGreatDoor
open Go Go.Vm
structure Pf where
 addr:Int
 bits:Int
 a0:0<=addr
 a1:addr<=4294967295
deriving DecidableEq
noncomputable abbrev encP(p:Pf):AV:=.agg [.v (.int .u32 p.addr),.v (.int .i64 p.bits)]
def pz(b:Int):Int:=((2^(32-b).toNat:Nat):Int)
theorem pz_pos(b:Int):0<pz b:=by
 have:=fI (32-b).toNat
 unfold pz;omega
theorem pz_le(b:Int)(h0:0<=b):pz b<=4294967296:=by
 have:=fR (show 2>0 by decide) (show(32-b).toNat<=32 by omega)
 unfold pz;omega
theorem mask_wrap(n:Int)(h0:0<=n)(h1:n<=32):IntKind.u32.wrap (4294967295*2^min (32-n).toNat IntKind.u32.bits)=4294967296-pz n:=by
 have h:∀k:Fin 33,IntKind.u32.wrap (4294967295*2^min k.val IntKind.u32.bits)=4294967296-((2^k.val:Nat):Int):=by decide
 exact h ⟨(32-n).toNat,by omega⟩
theorem size_wrap(n:Int)(h0:0<=n)(h1:n<=32):IntKind.u64.wrap (1*2^min (32-n).toNat IntKind.u64.bits)=pz n:=by
 have h:∀k:Fin 33,IntKind.u64.wrap (1*2^min k.val IntKind.u64.bits)=((2^k.val:Nat):Int):=by decide
 exact h ⟨(32-n).toNat,by omega⟩
theorem wr_is{k:IntKind}{e r:Int}{K:Int->Prop}(h:k.wrap e=r)(hk:K r):Wr k e K:=Wr.intro h hk
theorem cpMask(n:Int)(h0:0<=n)(h1:n<=32){K:KT}(hK:K (.v (.int .u32 (4294967296-pz n))) []):AC 223 [.v (.int .i64 n)] [] K:=by
 refine ofpMask rfl rfl ?_
 iterate 6 (all_goals((conv=>whnf);first|refine zG ?_|apply zA|intro h|exact zT|skip))
 refine wr_is (mask_wrap n h0 h1) ?_
 iterate 2 (all_goals((conv=>whnf);first|refine zG ?_|apply zA|intro h|exact zT|skip))
 exact hK
theorem crSize(n:Int)(h0:0<=n)(h1:n<=32){K:KT}(hK:K (.v (.int .u64 (pz n))) []):AC 192 [.v (.int .i64 n)] [] K:=by
 refine ofrSize rfl rfl ?_
 iterate 6 (all_goals((conv=>whnf);first|refine zG ?_|apply zA|intro h|exact zT|skip))
 refine wr_is (size_wrap n h0 h1) ?_
 iterate 2 (all_goals((conv=>whnf);first|refine zG ?_|apply zA|intro h|exact zT|skip))
 exact hK
def Pf.okP(p:Pf):Prop:=0<=p.bits/\p.bits<=32/\p.addr%pz p.bits=0
instance (p:Pf):Decidable p.okP:=by unfold Pf.okP;infer_instance
theorem pz_ne(b:Int):pz b≠0:=Int.ne_of_gt (pz_pos b)
theorem okP_hi{p:Pf}(h:p.okP):p.addr+pz p.bits-1<=4294967295:=by
 have:=(bits_orLow p.a0 p.a1 (k:=(32-p.bits).toNat) (by obtain⟨h1,h2,h3⟩:=h;omega) h.2.2).2
 unfold pz;omega
theorem crVal(p:Pf){K:KT}(hK:K (.sb (decide p.okP)) []):AC 191 [encP p] [] K:=by
 have b0:=p.a0;have b1:=p.a1
 refine gO (ofrVal rfl rfl ?_)
 iterate 24 (all_goals((conv=>whnf);first|(with_reducible first|refine crSize _ zo zo ?_|refine Ob.intro (pz_ne _) ?_|refine wr_u64 (fN b0) (Int.emod_nonneg _ (pz_ne _)) (Int.le_trans (Int.le_of_lt (Int.emod_lt_of_pos _ (pz_pos _))) (Int.le_trans (pz_le _ zo) zo)) ?_)|refine zG ?_|apply zA|intro h|exact zT|skip))
 ·exact fin_s hK (decide_eq_decide.2 (by rw[fN b0];simp only[Pf.okP];omega))
 ·exact fin_f hK (decide_eq_false (by simp only[Pf.okP];omega))
 ·exact fin_f hK (decide_eq_false (by simp only[Pf.okP];omega))
theorem cpVal(p:Pf){K:KT}(hK:K (.sb (decide p.okP)) []):AC 222 [encP p] [] K:=by
 have b0:=p.a0;have b1:=p.a1
 refine gO (ofpVal rfl rfl ?_)
 iterate 20 (all_goals((conv=>whnf);first|(with_reducible refine cpMask _ zo zo ?_)|refine zG ?_|apply zA|intro h|exact zT|skip))
 ·refine fin_s hK (decide_eq_decide.2 ?_)
  rw[pz,bits_andNot b0 b1 zo,Pf.okP,pz]
  omega
 ·exact fin_f hK (decide_eq_false (by simp only[Pf.okP];omega))
 ·exact fin_f hK (decide_eq_false (by simp only[Pf.okP];omega))
def Pf.rg(p:Pf):Rg:=if h:p.okP then⟨p.addr,p.addr+pz p.bits-1,p.a0,p.a1,by have:=p.a0;have:=pz_pos p.bits;omega,okP_hi h⟩else⟨0,0,by omega,by omega,by omega,by omega⟩
theorem rg_lo{p:Pf}(h:p.okP):p.rg.lo=p.addr:=by simp[Pf.rg,h]
theorem rg_hi{p:Pf}(h:p.okP):p.rg.hi=p.addr+pz p.bits-1:=by simp[Pf.rg,h]
theorem enc_rg{p:Pf}(h:p.okP):encR p.rg=.agg [.v (.int .u32 p.addr),.v (.int .u32 (p.addr+pz p.bits-1))]:=by rw[encR,rg_lo h,rg_hi h]
theorem enc_rg0{p:Pf}(h:¬p.okP):encR p.rg=.agg [.v (.int .u32 0),.v (.int .u32 0)]:=by simp[encR,Pf.rg,h]
def Pf.has(p:Pf)(v:Int):Bool:=decide p.okP&&(decide (p.rg.lo<=v)&&decide (v<=p.rg.hi))
theorem Weak.boolIs{b c:Bool}(h:c=b):Weak (.v (.bool b)) (.sb c):=h▸Weak.bool
theorem cpOf(p:Pf){K:KT}(hK:K (.tup [encR p.rg,.sb (decide p.okP)]) []):AC 167 [encP p] [] K:=by
 have b0:=p.a0;have b1:=p.a1
 refine gP (ofpOf rfl rfl ?_)
 rcases Decidable.em p.okP with hp|hp
 ·obtain⟨h0,h1,h2⟩:=id hp
  iterate 24 (all_goals((conv=>whnf);first|(with_reducible first|refine cpVal _ ?_|refine cpMask _ h0 h1 ?_)|refine zG ?_|apply zA|intro h|exact zT|skip))
  refine⟨_,gQ .refl (Weak.boolIs (decide_eq_true hp)),?_⟩
  have e:bBits BinOp.or IntKind.u32 p.addr (bBits BinOp.xor IntKind.u32 (if IntKind.u32.signed=true then-1 else IntKind.u32.max) (4294967296-pz p.bits))=p.addr+pz p.bits-1:=by
   have h3:=(bits_orLow b0 b1 (k:=(32-p.bits).toNat) zo h2).1
   have h4:=bits_xorMask (k:=(32-p.bits).toNat) zo
   rw[pz,show(if IntKind.u32.signed=true then-1 else IntKind.u32.max)=4294967295 from rfl,h4,h3]
   omega
  rw[e,<-enc_rg hp]
  exact hK
 ·iterate 24 (all_goals((conv=>whnf);first|(with_reducible refine cpVal _ ?_)|refine zG ?_|apply zA|intro h|exact zT|skip))
  refine⟨_,gQ .refl (Weak.boolIs (decide_eq_false hp)),?_⟩
  rw[<-enc_rg0 hp]
  exact hK
theorem crOf(p:Pf){K:KT}(hK:K (.tup [encR p.rg,.sb (decide p.okP)]) []):AC 109 [encP p] [] K:=by
 have b0:=p.a0;have b1:=p.a1
 refine gP (ofrOf rfl rfl ?_)
 rcases Decidable.em p.okP with hp|hp
 ·obtain⟨h0,h1,h2⟩:=id hp
  have h3:=okP_hi hp
  have h4:=pz_pos p.bits
  iterate 24 (all_goals((conv=>whnf);first|(with_reducible first|refine crVal _ ?_|refine crSize _ h0 h1 ?_)|refine zG ?_|apply zA|intro h|exact zT|skip))
  refine⟨_,gQ .refl (Weak.boolIs (decide_eq_true hp)),?_⟩
  rw[<-enc_rg hp]
  exact hK
 ·iterate 24 (all_goals((conv=>whnf);first|(with_reducible refine crVal _ ?_)|refine zG ?_|apply zA|intro h|exact zT|skip))
  refine⟨_,gQ .refl (Weak.boolIs (decide_eq_false hp)),?_⟩
  rw[<-enc_rg0 hp]
  exact hK
theorem has_iffP{p:Pf}{v:Int}:p.has v=true↔p.okP/\p.addr<=v/\v<=p.addr+pz p.bits-1:=by
 simp only[Pf.has,aF,aI]
 constructor
 ·rintro⟨h,h1,h2⟩;rw[rg_lo h]at h1;rw[rg_hi h]at h2;exact⟨h,h1,h2⟩
 ·rintro⟨h,h1,h2⟩;rw[rg_lo h,rg_hi h];exact⟨h,h1,h2⟩
theorem crCon(p:Pf)(v:Int){K:KT}(hK:K (.sb (p.has v)) []):AC 94 [encP p,.v (.int .u32 v)] [] K:=by
 refine gO (ofrCon rfl rfl ?_)
 iterate 24 (all_goals((conv=>whnf);first|(with_reducible refine crOf _ ?_)|refine zG ?_|apply zA|intro h|exact zT|skip))
 ·exact fin_s hK (by simp_all[Pf.has])
 ·exact fin_f hK (by simp_all[Pf.has];omega)
 ·exact fin_f hK (by simp_all[Pf.has])
theorem block_iff{a v s:Int}(hs:0<s)(ha:a%s=0):v-v%s=a↔a<=v/\v<=a+s-1:=by
 have h1:=Int.emod_nonneg v (Int.ne_of_gt hs)
 have h2:=Int.emod_lt_of_pos v hs
 constructor
 ·intro h;omega
 ·intro⟨h3,h4⟩
  have e:v%s=(v-a)%s:=by
   have:v=(v-a)+a:=by omega
   rw[Int.sub_emod,ha,Int.sub_zero,Int.emod_emod]
  rw[Int.emod_eq_of_lt (show 0<=v-a by omega) (show v-a<s by omega)]at e
  omega
theorem cpCon(p:Pf)(v:Int)(v0:0<=v)(v1:v<=4294967295){K:KT}(hK:K (.sb (p.has v)) []):AC 137 [encP p,.v (.int .u32 v)] [] K:=by
 refine gO (ofpCon rfl rfl ?_)
 iterate 24 (all_goals((conv=>whnf);first|(with_reducible first|refine cpVal _ ?_|refine cpMask _ (by simp only[Pf.okP]at h;omega) (by simp only[Pf.okP]at h;omega) ?_)|refine zG ?_|apply zA|intro h|exact zT|skip))
 ·refine fin_s hK ?_
  have h0:0<=p.bits/\p.bits<=32/\p.addr%pz p.bits=0:=h
  rw[pz,bits_and v0 v1 zo,<-pz,bD,has_iffP,aI,block_iff (pz_pos _) h0.2.2]
  exact⟨fun h=>h.2,fun h1=>⟨h,h1⟩⟩
 ·exact fin_f hK (by simp_all[Pf.has])
def Pf.cov(p q:Pf):Bool:=decide q.okP&&(p.has q.rg.lo&&p.has q.rg.hi)
theorem crCov(p q:Pf){K:KT}(hK:K (.sb (p.cov q)) []):AC 322 [encP p,encP q] [] K:=by
 refine gO (ofrCov rfl rfl ?_)
 iterate 24 (all_goals((conv=>whnf);first|(with_reducible first|refine crOf _ ?_|refine crCon _ _ ?_)|refine zG ?_|apply zA|intro h|exact zT|skip))
 ·exact fin_s hK (by simp_all[Pf.cov])
 ·exact fin_f hK (by simp_all[Pf.cov])
 ·exact fin_f hK (by simp_all[Pf.cov])
theorem pz_mul{a b:Int}(h:a<=b)(hb:b<=32):∃k:Nat,0<k/\pz a=pz b*k:=by
 refine⟨2^(b-a).toNat,fI _,?_⟩
 unfold pz
 rw[show(32-a).toNat=(32-b).toNat+(b-a).toNat by omega,Nat.pow_add]
 push_cast;rfl
theorem pz_lt{a b:Int}(h:a<b)(hb:b<=32):pz b<pz a:=by
 have:2^(32-b).toNat<2^(32-a).toNat:=Nat.pow_lt_pow_right zd zo
 unfold pz;omega
theorem block_in{a b s:Int}{k:Nat}(hs:0<s)(ha:a%(s*k)=0)(hb:b%s=0)(h1:a<=b)(h2:b<=a+s*k-1):b+s-1<=a+s*k-1:=by
 have e1:s∣a:=Int.dvd_trans (Int.dvd_mul_right s k) (fW ha)
 have e2:s∣b:=fW hb
 have e3:s∣(a+s*k-b):=Int.dvd_sub (Int.dvd_add e1 (Int.dvd_mul_right s k)) e2
 have:=Int.le_of_dvd zo e3
 omega
theorem cov_iff{p q:Pf}:p.cov q=true↔q.okP/\p.bits<=q.bits/\p.has q.addr=true:=by
 simp only[Pf.cov,aF,aI]
 constructor
 ·rintro⟨h,h1,h2⟩
  rw[rg_lo h]at h1;rw[rg_hi h]at h2
  refine⟨h,?_,h1⟩
  have g1:=has_iffP.1 h1;have g2:=has_iffP.1 h2
  rcases(by omega:q.bits<p.bits\/p.bits<=q.bits)with hb|hb
  ·have:=pz_lt hb g1.1.2.1
   omega
  ·exact hb
 ·rintro⟨h,h1,h2⟩
  refine⟨h,by rw[rg_lo h];exact h2,?_⟩
  rw[rg_hi h]
  obtain⟨g0,g1,g2⟩:=has_iffP.1 h2
  have hq:=pz_pos q.bits
  obtain⟨k,hk,e⟩:=pz_mul h1 h.2.1
  have ha:=g0.2.2
  rw[e]at ha g2
  have:=block_in hq ha h.2.2 g1 g2
  exact has_iffP.2 ⟨g0,by omega,by rw[e];omega⟩
theorem cpCov(p q:Pf){K:KT}(hK:K (.sb (p.cov q)) []):AC 286 [encP p,encP q] [] K:=by
 have a0:=q.a0;have a1:=q.a1
 refine gO (ofpCov rfl rfl ?_)
 iterate 24 (all_goals((conv=>whnf);first|(with_reducible first|refine cpVal _ ?_|refine cpCon _ _ a0 a1 ?_)|refine zG ?_|apply zA|intro h|exact zT|skip))
 ·exact fin_s hK (by rw[bD,cov_iff];simp_all)
 ·exact fin_f hK (by rw[bV,ne_eq,cov_iff];exact fun hh=>by have:=hh.2.1;omega)
 ·exact fin_f hK (by rw[bV,ne_eq,cov_iff];simp_all)
def Pf.meet(p q:Pf):Bool:=p.cov q||q.cov p
theorem crMeet(p q:Pf){K:KT}(hK:K (.sb (p.meet q)) []):AC 279 [encP p,encP q] [] K:=by
 refine gO (ofrMeet rfl rfl ?_)
 iterate 24 (all_goals((conv=>whnf);first|(with_reducible refine crCov _ _ ?_)|refine zG ?_|apply zA|intro h|exact zT|skip))
 ·exact fin_t hK (by simp_all[Pf.meet])
 ·exact fin_s hK (by simp_all[Pf.meet])
theorem ctOvl(p q:Pf){K:KT}(hK:K (.sb (p.meet q)) []):AC 230 [encP p,encP q] [] K:=by
 refine gO (oftOvl rfl rfl ?_)
 iterate 24 (all_goals((conv=>whnf);first|(with_reducible refine cpCov _ _ ?_)|refine zG ?_|apply zA|intro h|exact zT|skip))
 ·exact fin_t hK (by simp_all[Pf.meet])
 ·exact fin_s hK (by simp_all[Pf.meet])
noncomputable def gsName:Ctx:={N:=71}
noncomputable def bsName:Code:=bdy Tryz.f75
abbrev ofsName:=@ofC Tryz.prog gsName 75 Tryz.f75 bsName Tryz.func75 zk zk zk zk
noncomputable def grName:Ctx:={N:=65}
noncomputable def brName:Code:=bdy Tryz.f121
abbrev ofrName:=@ofC Tryz.prog grName 121 Tryz.f121 brName Tryz.func121 zk zk zk zk
noncomputable def gtDevOk:Ctx:={N:=26}
noncomputable def btDevOk:Code:=bdy Tryz.f227
abbrev oftDevOk:=@ofC Tryz.prog gtDevOk 227 Tryz.f227 btDevOk Tryz.func227 zk zk zk zk
noncomputable def gtDev:Ctx:={N:=9}
noncomputable def btDev:Code:=bdy Tryz.f228
abbrev oftDev:=@ofC Tryz.prog gtDev 228 Tryz.f228 btDev Tryz.func228 zk zk zk zk
noncomputable def gixDev:Ctx:={N:=19}
noncomputable def bixDev:Code:=bdy Tryz.f284
abbrev ofixDev:=@ofC Tryz.prog gixDev 284 Tryz.f284 bixDev Tryz.func284 zk zk zk zk
noncomputable def gtDev1:Ctx:={N:=8}
noncomputable def btDev1:Code:=bdy Tryz.f285
abbrev oftDev1:=@ofC Tryz.prog gtDev1 285 Tryz.f285 btDev1 Tryz.func285 zk zk zk zk
noncomputable def gtEdgeOk:Ctx:={N:=52}
noncomputable def btEdgeOk:Code:=bdy Tryz.f229
abbrev oftEdgeOk:=@ofC Tryz.prog gtEdgeOk 229 Tryz.f229 btEdgeOk Tryz.func229 zk zk zk zk
noncomputable def gtEdge:Ctx:={N:=9}
noncomputable def btEdge:Code:=bdy Tryz.f196
abbrev oftEdge:=@ofC Tryz.prog gtEdge 196 Tryz.f196 btEdge Tryz.func196 zk zk zk zk
noncomputable def gixEdge:Ctx:={N:=19}
noncomputable def bixEdge:Code:=bdy Tryz.f135
abbrev ofixEdge:=@ofC Tryz.prog gixEdge 135 Tryz.f135 bixEdge Tryz.func135 zk zk zk zk
noncomputable def gtEdge1:Ctx:={N:=8}
noncomputable def btEdge1:Code:=bdy Tryz.f271
abbrev oftEdge1:=@ofC Tryz.prog gtEdge1 271 Tryz.f271 btEdge1 Tryz.func271 zk zk zk zk
noncomputable def gixPf:Ctx:={N:=19}
noncomputable def bixPf:Code:=bdy Tryz.f287
abbrev ofixPf:=@ofC Tryz.prog gixPf 287 Tryz.f287 bixPf Tryz.func287 zk zk zk zk
noncomputable def ganyPf:Ctx:={N:=9}
noncomputable def banyPf:Code:=bdy Tryz.f231
abbrev ofanyPf:=@ofC Tryz.prog ganyPf 231 Tryz.f231 banyPf Tryz.func231 zk zk zk zk
noncomputable def gtVal1:Ctx:={N:=7}
noncomputable def btVal1:Code:=bdy Tryz.f232
abbrev oftVal1:=@ofC Tryz.prog gtVal1 232 Tryz.f232 btVal1 Tryz.func232 zk zk zk zk
noncomputable def gtVal:Ctx:={N:=173}
noncomputable def btVal:Code:=bdy Tryz.f146
abbrev oftVal:=@ofC Tryz.prog gtVal 146 Tryz.f146 btVal Tryz.func146 zk zk zk zk
noncomputable def guDevs:Ctx:={N:=70}
noncomputable def buDevs:Code:=bdy Tryz.f210
abbrev ofuDevs:=@ofC Tryz.prog guDevs 210 Tryz.f210 buDevs Tryz.func210 zk zk zk zk
noncomputable def guDev:Ctx:={N:=22}
noncomputable def buDev:Code:=bdy Tryz.f278
abbrev ofuDev:=@ofC Tryz.prog guDev 278 Tryz.f278 buDev Tryz.func278 zk zk zk zk
noncomputable def guEdgeOk:Ctx:={N:=46}
noncomputable def buEdgeOk:Code:=bdy Tryz.f211
abbrev ofuEdgeOk:=@ofC Tryz.prog guEdgeOk 211 Tryz.f211 buEdgeOk Tryz.func211 zk zk zk zk
noncomputable def guEdge:Ctx:={N:=22}
noncomputable def buEdge:Code:=bdy Tryz.f82
abbrev ofuEdge:=@ofC Tryz.prog guEdge 82 Tryz.f82 buEdge Tryz.func82 zk zk zk zk
noncomputable def guFixed:Ctx:={N:=29,hints:=at1 2 ([.virt 3 2]) (fun _=>[])}
noncomputable def buFixed:Code:=bdy Tryz.f119
abbrev ofuFixed:=@ofC Tryz.prog guFixed 119 Tryz.f119 buFixed Tryz.func119 zk zk zk zk
noncomputable def guMeets:Ctx:={N:=18,plan:=at1 4 (some (ln [1,3,5,7,9,10])) (fun _=>none)}
noncomputable def buMeets:Code:=bdy Tryz.f212
abbrev ofuMeets:=@ofC Tryz.prog guMeets 212 Tryz.f212 buMeets Tryz.func212 zk zk zk zk
noncomputable def guVal:Ctx:={N:=152,plan:=at1 12 (some (ln [1,3,5,7,9,11,13,15,16,19,21,23,25,27,29,31,33,35,39,36,41,43])) (at1 18 (some (ln [1,3,5,7,9,11,13,14])) (at1 23 (some (ln [1,3,5,7,9,10,13,15,17,19,21,23,25,27,29,31,33,34,37])) (fun _=>none)))}
noncomputable def buVal:Code:=bdy Tryz.f118
abbrev ofuVal:=@ofC Tryz.prog guVal 118 Tryz.f118 buVal Tryz.func118 zk zk zk zk
def nmL(c:Int):Prop:=97<=c/\c<=122
def nmC(c:Int):Prop:=(97<=c/\c<=122)\/(48<=c/\c<=57)\/c=45\/c=95
def nameOk(s:ByteArray):Prop:=(s.toList==(⟨#[]⟩:ByteArray).toList)=false/\(s.size:Int)<=24/\(s.toList==(⟨#[97,110,121]⟩:ByteArray).toList)=false/\(∀b,s[0]? =some b->nmL (b.toNat:Int))/\∀(i:Nat) b,s[i]? =some b->nmC (b.toNat:Int)
open Classical in
noncomputable def nameB(s:ByteArray):Bool:=decide (nameOk s)
theorem nameB_true{s:ByteArray}(h:nameOk s):nameB s=true:=by simp[nameB,h]
theorem nameB_false{s:ByteArray}(h:¬nameOk s):nameB s=false:=by simp[nameB,h]
theorem nameB_iff{s:ByteArray}:nameB s=true↔nameOk s:=by simp[nameB]
theorem size_pos{s:ByteArray}(h:(s.toList==(⟨#[]⟩:ByteArray).toList)=false):0<s.size:=by
 rcases dJ s.size with h0|h0
 ·exfalso
  have:s=⟨#[]⟩:=by
   obtain⟨d⟩:=s
   have:d=#[]:=dA h0
   rw[this]
  rw[this]at h
  simp at h
 ·exact h0
theorem ix_ba{s:ByteArray}{j:Nat}{K:UInt8->Prop}(h:j<s.size)(hk:∀b,s[j]? =some b->K b):∃b,s[j]? =some b/\K b:=⟨s[j],by simp[h],hk _ (by simp[h])⟩
theorem ix_is{s:ByteArray}{j:Nat}{b:UInt8}{K:UInt8->Prop}(h:s[j]? =some b)(hk:K b):∃b,s[j]? =some b/\K b:=⟨b,h,hk⟩
theorem csName(s:ByteArray){K:KT}(hK:K (.sb (nameB s)) []):AC 75 [.v (.string s)] [] K:=by
 refine gO (ofsName rfl rfl ?_)
 iterate 12 (all_goals((conv=>whnf);first|refine zG ?_|apply zA|intro h|exact zT|skip))
 ·exact fin_f hK (nameB_false fun hn=>by have:=hn.1;simp_all)
 ·exact fin_f hK (nameB_false fun hn=>by have:=hn.2.1;omega)
 ·exact fin_f hK (nameB_false fun hn=>by have:=hn.2.2.1;simp_all)
 rename_i g1 g2;have g3:=h
 have hp:=size_pos g1
 refine hU (j:=0) hp ?_
 refine ix_ba hp fun c hc=>?_
 iterate 3 (all_goals((conv=>whnf);first|refine zG ?_|apply zA|intro h|exact zT|skip))
 ·exact fin_f hK (nameB_false fun hn=>by have:=hn.2.2.2.1 c hc;unfold nmL at this;omega)
 refine hU (j:=0) hp ?_
 refine ix_is hc ?_
 iterate 3 (all_goals((conv=>whnf);first|refine zG ?_|apply zA|intro h|exact zT|skip))
 ·exact fin_f hK (nameB_false fun hn=>by have:=hn.2.2.2.1 c hc;unfold nmL at this;omega)
 rename_i g4;have g5:=h
 refine gL Nat (fun k=>⟨0,[],[(0,.v (.string s)),(3,.v (.int .i64 k))]⟩) (fun k=>k<=s.size/\∀(i:Nat) b,i<k->s[i]? =some b->nmC (b.toNat:Int)) (fun k=>s.size-k) 0 ?_ ?_ ?_
 ·exact⟨by omega,fun i b hi=>by omega⟩
 ·exact⟨[],rfl,⟨rfl,rfl,trivial⟩,trivial⟩
 ·intro k ⟨hk,hinv⟩
  rcases aD k s.size with hkl|hkl
  ·obtain⟨b,hb⟩:∃b,s[k]? =some b:=⟨s[k],by simp[hkl]⟩
   iterate 40 (all_goals((conv=>whnf);first|(with_reducible first|refine hU hkl ?_|refine ix_is hb ?_)|refine zG ?_|apply zA|intro h|exact zT|skip))
   all_goals first
    |(refine fin_f hK (nameB_false fun hn=>?_)
      have:=hn.2.2.2.2 k b hb
      unfold nmC at this
      omega)
    |(refine⟨k+1,⟨by omega,fun i c hi hc=>?_⟩,by omega,⟨[],rfl,⟨rfl,rfl,trivial⟩,trivial⟩⟩
      rcases aD i k with h9|h9
      ·exact hinv i c h9 hc
      ·have:i=k:=by omega
       subst this
       rw[hb]at hc;cases hc
       unfold nmC
       omega)
  ·iterate 12 (all_goals((conv=>whnf);first|refine zG ?_|apply zA|intro h|exact zT|skip))
   exact fin_t hK (nameB_true ⟨g1,by omega,g3,fun b hb=>by rw[hc]at hb;cases hb;unfold nmL;omega,fun i b hb=>hinv i b (by
    rcases aD i s.size with h9|h9
    ·omega
    ·simp[h9]at hb) hb⟩)
theorem crName(s:ByteArray){K:KT}(hK:K (.sb (nameB s)) []):AC 121 [.v (.string s)] [] K:=by
 refine gO (ofrName rfl rfl ?_)
 iterate 16 (all_goals((conv=>whnf);first|refine zG ?_|apply zA|intro h|exact zT|skip))
 ·exact fin_f hK (nameB_false fun hn=>by have:=hn.1;simp_all)
 ·exact fin_f hK (nameB_false fun hn=>by have:=hn.2.1;omega)
 ·exact fin_f hK (nameB_false fun hn=>by have:=hn.2.2.1;simp_all)
 rename_i g1 g2;have g3:=h
 refine gL Nat (fun k=>⟨0,[],[(0,.v (.string s)),(3,.v (.int .i64 k))]⟩) (fun k=>k<=s.size/\∀(i:Nat) b,i<k->s[i]? =some b->nmC (b.toNat:Int)/\(i=0->nmL (b.toNat:Int))) (fun k=>s.size-k) 0 ?_ ?_ ?_
 ·exact⟨by omega,fun i b hi=>by omega⟩
 ·exact⟨[],rfl,⟨rfl,rfl,trivial⟩,trivial⟩
 ·intro k ⟨hk,hinv⟩
  rcases aD k s.size with hkl|hkl
  ·obtain⟨b,hb⟩:∃b,s[k]? =some b:=⟨s[k],by simp[hkl]⟩
   iterate 50 (all_goals((conv=>whnf);first|(with_reducible first|refine hU hkl ?_|refine ix_is hb ?_)|refine zG ?_|apply zA|intro h|exact zT|skip))
   all_goals first
    |(refine fin_f hK (nameB_false fun hn=>?_)
      have h7:=hn.2.2.2.2 k b hb
      have h8:=fun h0:k=0=>hn.2.2.2.1 b (h0▸hb)
      unfold nmC at h7
      unfold nmL at h8
      omega)
    |(refine⟨k+1,⟨by omega,fun i c hi hc=>?_⟩,by omega,⟨[],rfl,⟨rfl,rfl,trivial⟩,trivial⟩⟩
      rcases aD i k with h9|h9
      ·exact hinv i c h9 hc
      ·have:i=k:=by omega
       subst this
       rw[hb]at hc;cases hc
       unfold nmC nmL
       omega)
  ·iterate 12 (all_goals((conv=>whnf);first|refine zG ?_|apply zA|intro h|exact zT|skip))
   have hall:∀(i:Nat) b,s[i]? =some b->nmC (b.toNat:Int)/\(i=0->nmL (b.toNat:Int)):=fun i b hb=>hinv i b (by
    rcases aD i s.size with h9|h9
    ·omega
    ·simp[h9]at hb) hb
   exact fin_t hK (nameB_true ⟨g1,by omega,g3,fun b hb=>(hall 0 b hb).2 rfl,fun i b hb=>(hall i b hb).1⟩)
structure Dv where
 name:ByteArray
 cap:Int
 rg:Bool
 vol:Bool
 cls:ByteArray
structure Lk where
 a:Int
 b:Int
 cost:Int
structure Ed where
 name:ByteArray
 dev:Int
 zone:ByteArray
 pf:Pf
 pl:Bool
structure Tp where
 devs:List Dv
 links:List Lk
 edges:List Ed
 pools:List Pf
 tol:Int
noncomputable abbrev encD(d:Dv):AV:=.agg [.v (.string d.name),.v (.int .i64 d.cap),.sb d.rg,.sb d.vol,.v (.string d.cls)]
noncomputable abbrev encL(l:Lk):AV:=.agg [.v (.int .i64 l.a),.v (.int .i64 l.b),.v (.int .i64 l.cost)]
noncomputable abbrev encE(e:Ed):AV:=.agg [.v (.string e.name),.v (.int .i64 e.dev),.v (.string e.zone),.v (.int .u32 e.pf.addr),.v (.int .i64 e.pf.bits),.sb e.pl]
noncomputable abbrev encT(t:Tp):AV:=.agg [.lst (t.devs.map encD),.lst (t.links.map encL),.lst (t.edges.map encE),.lst (t.pools.map encP),.v (.int .i64 t.tol)]
def firstIx{α:Type}(p:α->Bool)(l:List α):Int:=match l.findIdx? p with
 |some i=>(i:Int)
 |none=> -1
theorem firstIx_at{α:Type}{p:α->Bool}{l:List α}{k:Nat}{x:α}(hx:l[k]? =some x)(hp:p x=true)(hn:∀(i:Nat) y,i<k->l[i]? =some y->p y=false):firstIx p l=k:=by
 have hk:k<l.length:=(aM.1 hx).1
 have:l.findIdx? p=some k:=by
  rw[dM]
  refine⟨hk,?_,fun j hj=>?_⟩
  ·rw[aB hk]at hx;rw[bE hx];exact hp
  ·have:=hn j _ hj (aB zo)
   simp[this]
 simp[firstIx,this]
theorem firstIx_none{α:Type}{p:α->Bool}{l:List α}(hn:∀(i:Nat) y,l[i]? =some y->p y=false):firstIx p l= -1:=by
 have:l.findIdx? p=none:=by
  rw[fS]
  intro x hx
  obtain⟨i,hi⟩:=bI.1 hx
  exact hn i x hi
 simp[firstIx,this]
theorem before_succ{α:Type}{p:α->Bool}{l:List α}{k:Nat}{x:α}(hx:l[k]? =some x)(hp:p x=false)(hn:∀(i:Nat) y,i<k->l[i]? =some y->p y=false):∀(i:Nat) y,i<k+1->l[i]? =some y->p y=false:=by
 intro i y hi hy
 rcases aD i k with h|h
 ·exact hn i y h hy
 ·have:i=k:=by omega
  subst this
  rw[hx]at hy;cases hy;exact hp
theorem before_all{α:Type}{Q:Nat->α->Prop}{l:List α}{k:Nat}(hk:l.length<=k)(hn:∀(i:Nat) y,i<k->l[i]? =some y->Q i y):∀(i:Nat) y,l[i]? =some y->Q i y:=fun i y hy=>hn i y (by have:=(aM.1 hy).1;omega) hy
abbrev iB:=@before_all
theorem all_succ{α:Type}{Q:Nat->α->Prop}{l:List α}{k:Nat}{x:α}(hx:l[k]? =some x)(hp:Q k x)(hn:∀(i:Nat) y,i<k->l[i]? =some y->Q i y):∀(i:Nat) y,i<k+1->l[i]? =some y->Q i y:=by
 intro i y hi hy
 rcases aD i k with h|h
 ·exact hn i y h hy
 ·have:i=k:=by omega
  subst this
  rw[hx]at hy;cases hy;exact hp
abbrev iC:=@all_succ
theorem cixDev(l:List Dv)(f:FuncId)(cs:List AV)(p:Dv->Bool)(hF:∀(x:Dv) (K:AV->List Vm.Obj->Prop),K (.sb (p x)) []->AC f [encD x,.fp cs] [] K)(hl:l.length<1000000){K:KT}(hK:K (.v (.int .i64 (firstIx p l))) []):
  AC 284 [.lst (l.map encD),.fn (.func f) [] [.fp cs]] [] K:=by
 refine ofixDev rfl rfl ?_
 iterate 3 (all_goals((conv=>whnf);first|refine zG ?_|apply zA|intro h|exact zT|skip))
 refine gL Nat (fun k=>⟨0,[],[(0,.lst (l.map encD)),(1,.fn (.func f) [] [.fp cs]),(7,.v (.int .i64 (l.map encD).length)),(8,.v (.int .i64 k))]⟩) (fun k=>k<=l.length/\∀(i:Nat) y,i<k->l[i]? =some y->p y=false) (fun k=>l.length-k) 0 ?_ ?_ ?_
 ·exact⟨aL _,fun i y hi=>absurd hi (aY _)⟩
 ·exact⟨[],rfl,⟨rfl,rfl,rfl,rfl,trivial⟩,trivial⟩
 ·intro k ⟨hk,hinv⟩
  rcases aD k l.length with hkl|hkl
  ·obtain⟨r,hr⟩:=gex hkl
   iterate 12 (all_goals((conv=>whnf);first|(with_reducible first|refine hJ hkl ?_|refine gZ hr ?_|refine hF r _ ?_)|refine zG ?_|apply zA|intro h|exact zT|skip))
   ·rw[firstIx_at hr h hinv]at hK;exact hK
   ·exact⟨k+1,⟨by omega,before_succ hr h hinv⟩,by omega,⟨[],rfl,⟨rfl,rfl,rfl,rfl,trivial⟩,trivial⟩⟩
  ·iterate 6 (all_goals((conv=>whnf);first|refine zG ?_|apply zA|intro h|exact zT|skip))
   rw[firstIx_none (iB hkl hinv)]at hK
   exact hK
theorem cixEdge(l:List Ed)(f:FuncId)(cs:List AV)(p:Ed->Bool)(hF:∀(x:Ed) (K:AV->List Vm.Obj->Prop),K (.sb (p x)) []->AC f [encE x,.fp cs] [] K)(hl:l.length<1000000){K:KT}(hK:K (.v (.int .i64 (firstIx p l))) []):
  AC 135 [.lst (l.map encE),.fn (.func f) [] [.fp cs]] [] K:=by
 refine ofixEdge rfl rfl ?_
 iterate 3 (all_goals((conv=>whnf);first|refine zG ?_|apply zA|intro h|exact zT|skip))
 refine gL Nat (fun k=>⟨0,[],[(0,.lst (l.map encE)),(1,.fn (.func f) [] [.fp cs]),(7,.v (.int .i64 (l.map encE).length)),(8,.v (.int .i64 k))]⟩) (fun k=>k<=l.length/\∀(i:Nat) y,i<k->l[i]? =some y->p y=false) (fun k=>l.length-k) 0 ?_ ?_ ?_
 ·exact⟨aL _,fun i y hi=>absurd hi (aY _)⟩
 ·exact⟨[],rfl,⟨rfl,rfl,rfl,rfl,trivial⟩,trivial⟩
 ·intro k ⟨hk,hinv⟩
  rcases aD k l.length with hkl|hkl
  ·obtain⟨r,hr⟩:=gex hkl
   iterate 12 (all_goals((conv=>whnf);first|(with_reducible first|refine hJ hkl ?_|refine gZ hr ?_|refine hF r _ ?_)|refine zG ?_|apply zA|intro h|exact zT|skip))
   ·rw[firstIx_at hr h hinv]at hK;exact hK
   ·exact⟨k+1,⟨by omega,before_succ hr h hinv⟩,by omega,⟨[],rfl,⟨rfl,rfl,rfl,rfl,trivial⟩,trivial⟩⟩
  ·iterate 6 (all_goals((conv=>whnf);first|refine zG ?_|apply zA|intro h|exact zT|skip))
   rw[firstIx_none (iB hkl hinv)]at hK
   exact hK
theorem cixPf(l:List Pf)(f:FuncId)(cs:List AV)(p:Pf->Bool)(hF:∀(x:Pf) (K:AV->List Vm.Obj->Prop),K (.sb (p x)) []->AC f [encP x,.fp cs] [] K)(hl:l.length<1000000){K:KT}(hK:K (.v (.int .i64 (firstIx p l))) []):
  AC 287 [.lst (l.map encP),.fn (.func f) [] [.fp cs]] [] K:=by
 refine ofixPf rfl rfl ?_
 iterate 3 (all_goals((conv=>whnf);first|refine zG ?_|apply zA|intro h|exact zT|skip))
 refine gL Nat (fun k=>⟨0,[],[(0,.lst (l.map encP)),(1,.fn (.func f) [] [.fp cs]),(7,.v (.int .i64 (l.map encP).length)),(8,.v (.int .i64 k))]⟩) (fun k=>k<=l.length/\∀(i:Nat) y,i<k->l[i]? =some y->p y=false) (fun k=>l.length-k) 0 ?_ ?_ ?_
 ·exact⟨aL _,fun i y hi=>absurd hi (aY _)⟩
 ·exact⟨[],rfl,⟨rfl,rfl,rfl,rfl,trivial⟩,trivial⟩
 ·intro k ⟨hk,hinv⟩
  rcases aD k l.length with hkl|hkl
  ·obtain⟨r,hr⟩:=gex hkl
   iterate 12 (all_goals((conv=>whnf);first|(with_reducible first|refine hJ hkl ?_|refine gZ hr ?_|refine hF r _ ?_)|refine zG ?_|apply zA|intro h|exact zT|skip))
   ·rw[firstIx_at hr h hinv]at hK;exact hK
   ·exact⟨k+1,⟨by omega,before_succ hr h hinv⟩,by omega,⟨[],rfl,⟨rfl,rfl,rfl,rfl,trivial⟩,trivial⟩⟩
  ·iterate 6 (all_goals((conv=>whnf);first|refine zG ?_|apply zA|intro h|exact zT|skip))
   rw[firstIx_none (iB hkl hinv)]at hK
   exact hK
noncomputable def encU(x:Int):AV:=.v (.int .u64 x)
noncomputable abbrev encUs(l:List Int):AV:=.lst (l.map encU)
def ins:List Int->Int->List Int
 |[],v=>[v]
 |x::xs,v=>if x<v then x::ins xs v else if x=v then x::xs else v::x::xs
theorem ins_take:∀(l:List Int) (v:Int) (k:Nat),(∀x,x∈l.take k->x<v)->ins l v=l.take k++ins (l.drop k) v
 |[],v,k,h=>by simp[ins]
 |x::xs,v,0,h=>by simp
 |x::xs,v,k+1,h=>by
  have hx:x<v:=h x zx
  rw[List.take_succ_cons,List.drop_succ_cons,List.cons_append,<-ins_take xs v k (fun y hy=>h y (by simp[hy]))]
  simp[ins,hx]
def insT(l:List Int)(v top:Int):List Int:=if top<v then l else ins l v
theorem c51(l:List Int)(v top:Int)(ht0:0<=top)(ht:top<=4294967295)(hl:l.length<1000000){K:KT}(hK:K (encUs (insT l v top)) []):
  AC 246 [encUs l,.v (.int .u64 v),.v (.int .u32 top)] [] K:=by
 refine of51 rfl rfl ?_
 conv=>whnf
 refine wr_u64 (r:=top) zo zo zo ?_
 conv=>whnf
 refine br_dec (fun h=>?_) (fun h=>?_)
 ·conv=>whnf
  rw[insT,aH h]at hK
  exact hK
 ·rw[insT,aE h]at hK
  conv=>whnf
  refine gL Nat (fun k=>⟨0,[],[(0,encUs l),(1,.v (.int .u64 v)),(7,.v (.int .i64 k))]⟩) (fun k=>k<=l.length/\∀x,x∈l.take k->x<v) (fun k=>l.length-k) 0 ?_ ?_ ?_
  ·exact⟨by omega,by simp⟩
  ·exact⟨[],rfl,⟨rfl,rfl,rfl,trivial⟩,trivial⟩
  ·intro k ⟨hk,hinv⟩
   have hk2:=ins_take l v k hinv
   conv=>whnf
   refine br_dec (fun h=>?_) (fun h=>?_)
   ·have hkl:k<l.length:=by simp at h;omega
    conv=>whnf
    refine hJ hkl ?_
    refine ix_any hkl (fun x hx=>?_)
    conv=>whnf
    refine br_dec (fun h1=>?_) (fun h1=>?_)
    ·conv=>whnf
     refine wr_i64 (r:=((k+1:Nat):Int)) zo zo zo ?_
     conv=>whnf
     refine⟨k+1,⟨by omega,?_⟩,by omega,⟨[],rfl,⟨rfl,rfl,rfl,trivial⟩,trivial⟩⟩
     intro y hy
     rw[bH,hx]at hy
     simp only[eB,aU,aR]at hy
     rcases hy with hy|rfl
     ·exact hinv y hy
     ·exact h1
    ·conv=>whnf
     refine br_pos h ?_
     conv=>whnf
     refine hJ hkl ?_
     refine gZ hx ?_
     conv=>whnf
     refine br_dec (fun h2=>?_) (fun h2=>?_)
     ·conv=>whnf
      have e:ins l v=l:=by
       rw[hk2,aZ hkl]
       have:l[k]=x:=by rw[aB hkl]at hx;exact bE hx
       rw[this,h2]
       simp only[ins,Int.lt_irrefl,if_false,if_true]
       rw[<-h2,<-this,<-aZ hkl,cS]
      rw[e]at hK
      exact hK
     ·conv=>whnf
      have fin:K (.lst ([]++(List.take (k-0) (List.drop 0 l)).map encU++[encU v]++(List.take (l.length-k) (List.drop k l)).map encU)) []:=by
       have e:[]++(List.take (k-0) (List.drop 0 l)).map encU++[encU v]++(List.take (l.length-k) (List.drop k l)).map encU=(ins l v).map encU:=by
        have e2:ins (l.drop k) v=v::l.drop k:=by
         rw[aZ hkl]
         have:l[k]=x:=by rw[aB hkl]at hx;exact bE hx
         rw[this]
         simp only[ins,h1,h2,if_false]
        rw[hk2,e2]
        simp[bA]
       rw[e];exact hK
      (repeat' ((conv=>whnf);first|(with_reducible first|refine gV 0 k rfl rfl zo (by simp;omega) ?_|refine gV k l.length rfl zx zo zx ?_|refine sl_map zo ?_|refine Ob.intro (fun x hx=>by obtain⟨y,_,rfl⟩:=bK.1 hx;rfl) ?_|refine Ob.intro zk ?_)|refine zG ?_|apply zA|intro h|exact zT));all_goals conv=>whnf
      all_goals exact fin
   ·(conv=>whnf)
    have hkl:k=l.length:=by simp at h;omega
    refine br_neg h ?_
    (conv=>whnf)
    have fin:K (.lst ([]++(List.take (k-0) (List.drop 0 l)).map encU++[encU v]++(List.take (l.length-k) (List.drop k l)).map encU)) []:=by
     have e:[]++(List.take (k-0) (List.drop 0 l)).map encU++[encU v]++(List.take (l.length-k) (List.drop k l)).map encU=(ins l v).map encU:=by
      subst hkl
      rw[hk2]
      simp[ins]
     rw[e];exact hK
    (repeat' ((conv=>whnf);first|(with_reducible first|refine gV 0 k rfl rfl zo (by simp;omega) ?_|refine gV k l.length rfl zx zo zx ?_|refine sl_map zo ?_|refine Ob.intro (fun x hx=>by obtain⟨y,_,rfl⟩:=bK.1 hx;rfl) ?_|refine Ob.intro zk ?_)|refine zG ?_|apply zA|intro h|exact zT));all_goals conv=>whnf
    all_goals exact fin
end Go.Proofs.YtbdikofefjljoaaGreatDoor
