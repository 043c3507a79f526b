/- Lemmas. -/
import Derived.Test.YtgicddadddhonaaGreatDoorM6
set_option linter.unusedVariables false
set_option linter.unusedSimpArgs false
set_option maxRecDepth 100000
set_option maxHeartbeats 4000000
namespace Go.Vm
def DefR(P:Program)(ι:Inj):Option AV->List Deferred->Prop
 |none,ds=>ds=[]
 |some (.dfr id s),ds=>∃b base aT ty cs t e,ι id=some (some (b,base))/\ds=[⟨.builtin .delete aT ty cs,#[.map (some b),.string s]⟩]/\aT[0]? =some t/\Jz P t=some e
 |_,_=>False
structure Sim (P:Program) (N:Nat) (ι:Inj) (E:Nat->Prop) (σ:St) (a:Act) (w:World):Prop where
 rep:Rep ι E w σ.n σ.h
 slots:∀t x,t≠DS->get σ.s t=some x->∃v,a.tmps[t]? =some v/\Rel E w ι x v
 size:a.tmps.size=N
 cap:N<=DS
 defers:DefR P ι (get σ.s DS) a.defers
section
variable {P:Program} {E:Nat->Prop} {w:World} {ι:Inj} {N:Nat} {σ:St} {a:Act}
theorem DefR.keep{P:Program}{ι ι':Inj}(hι:∀id q,ι id=some q->ι' id=some q){x:Option AV}{ds:List Deferred}(h:DefR P ι x ds):DefR P ι' x ds:=by
 cases x with
 |none=>exact h
 |some y=>
  cases y<;>first|exact h.elim|skip
  obtain⟨b,base,aT,ty,cs,t,e,h1,h2⟩:=h;exact⟨b,base,aT,ty,cs,t,e,hι _ _ h1,h2⟩
theorem Sim.ev(s:Sim P N ι E σ a w)(x:Operand):Rel E w ι (σ.ev x) (a.eval x):=by
 cases x with
 |tmp t=>
  simp only[St.ev,Act.eval];cases hg:get σ.s t with
  |none=>exact .junk _
  |some y=>
   by_cases ht:t=DS
   ·subst ht;have hd:=s.defers;rw[hg]at hd;cases y<;>first|exact hd.elim|exact .dfr _ _ _
   ·obtain⟨v,h1,h2⟩:=s.slots t y ht hg;simp only;have:a.tmps.getD t undef=v:=by simp[h1]
    rw[this];exact h2
 |const v=>exact wU v
 |global g=>
  simp only[St.ev,Act.eval];split
  ·rename_i cs hg;exact s.rep.glob.rel hg
  ·exact .junk _
 |func f=>exact .fn _ [] [] #[] #[] rfl rfl (fun i x y hx _=>by simp at hx) (fun i x y hx _=>by simp at hx)
theorem Sim.notDS(s:Sim P N ι E σ a w){t:Nat}{x:AV}(hg:get σ.s t=some x)(hx:∀i str,x≠.dfr i str):t≠DS:=fun e=>by
 subst e;have hd:=s.defers;rw[hg]at hd;cases x<;>first|exact hd.elim|exact hx _ _ rfl
theorem Sim.keep{ι':Inj}{E':Nat->Prop}{w':World}{n':Nat}{h':Hp}(s:Sim P N ι E σ a w)(r:Rep ι' E' w' n' h')(x:Ext ι σ.h E w ι' h' E' w'):Sim P N ι' E' ⟨n',h',σ.s⟩ a w':=
 ⟨r,fun t y ht hg=>by
  obtain⟨v,h1,h2⟩:=s.slots t y ht hg;exact⟨v,h1,x.rel s.rep h2⟩,s.size,s.cap,s.defers.keep x.inj⟩
theorem Sim.put(s:Sim P N ι E σ a w){x:AV}{v:Value}(dst:Option Tmp)(hr:Rel E w ι x v):Sim P N ι E (σ.put N dst x) (a.put dst v) w:=by
 cases dst with
 |none=>exact s
 |some d=>
  simp only[St.put,Act.put];cases hb:Nat.blt d N with
  |true=>
   have hlt':d+1<=N:=by simpa[Nat.blt]using hb
   have hlt:d<N:=hlt';have hc:=s.cap;refine⟨s.rep,fun t y ht hg=>?_,by simp;exact s.size,s.cap,by rw[jA,aF (Nat.ne_of_lt (cN hlt hc))];exact s.defers⟩;rw[jA]at hg;split at hg
   ·rename_i e;subst e;cases hg;exact⟨v,by simp[s.size,hlt],hr⟩
   ·rename_i e;obtain⟨u,h1,h2⟩:=s.slots t y ht hg;exact⟨u,by simp[Array.getElem?_setIfInBounds_ne e,h1],h2⟩
  |false=>
   have hge:N<=d:=by
    rcases aD d N with h|h
    ·have h':d+1<=N:=h;have:Nat.blt d N=true:=by simpa[Nat.blt]using h'
     rw[this]at hb;cases hb
    ·exact h
   have:a.tmps.setIfInBounds d v=a.tmps:=by
    apply Array.ext_getElem?;intro i;rw[Array.getElem?_setIfInBounds];split
    ·rename_i e;subst e;split
     ·rename_i hlt;have:=s.size;omega
     ·rename_i hge';rw[fE zo]
    ·rfl
   rw[this];exact s
theorem Sim.more(s:Sim P N ι E σ a w){t:Nat}{x:AV}(hne:t≠DS)(hx:∃v,a.tmps[t]? =some v/\Rel E w ι x v):Sim P N ι E ⟨σ.n,σ.h,(t,x)::σ.s⟩ a w:=
 ⟨s.rep,fun t' y ht hg=>by
  simp only[jA]at hg;split at hg
  ·rename_i e;subst e;cases hg;exact hx
  ·exact s.slots t' y ht hg,s.size,s.cap,by rw[jA,aF hne];exact s.defers⟩
def Left(P:Program)(N:Nat)(ι:Inj)(E:Nat->Prop)(σ:St)(w:World)(K:St->Prop)(a':Act)(w':World):Prop:=
 ∃σ' ι' E',K σ'/\Sim P N ι' E' σ' a' w'/\Ext ι σ.h E w ι' σ'.h E' w'
theorem I2(s:Sim P N ι E σ a w){Γ:Ctx}(hN:Γ.N=N){o:Oper}{K:St->Prop}(hq:kW o.op=true)(h:vD P Γ o σ K):
  ∃v σ',(∀w2,(Rd o.op=true->Same w w2)->(execOp a.eval o).run P w2=.ok (.value v) w2)/\K σ'/\Sim P N ι E σ' (a.put o.dst v) w/\σ'.h=σ.h:=by
 obtain⟨n,hh,ss⟩:=σ;unfold vD at h;simp only[hq,H3]at h;obtain⟨v,x,h1,h2,h3⟩:=Zz s.rep s.ev h;refine⟨v,_,h1,h3,hN▸s.put o.dst h2,?_⟩;unfold St.put;split
 ·rfl
 ·split<;>rfl
theorem Yo(s:Sim P N ι E σ a w){Γ:Ctx}(hN:Γ.N=N){o:Oper}{t:TypeId}{X:Operand}{K:St->Prop}(ho:o.op=.load t X)(h:vD P Γ o σ K):
  ∃v σ' b,b<w.heap.size/\aLb E ι (σ.ev X) b/\(∀w2,w2.heap[b]? =w.heap[b]? ->(execOp a.eval o).run P w2=.ok (.value v) w2)/\K σ'/\Sim P N ι E σ' (a.put o.dst v) w/\σ'.h=σ.h:=by
 obtain⟨n,hh,ss⟩:=σ;unfold vD at h;have hq:kW o.op=true:=by rw[ho];rfl
 simp only[hq,H3,ho,qop]at h;obtain⟨b,hb,⟨v,x,h1,h2,h3⟩,hr⟩:=Ud s.rep (s.ev X) h;refine⟨v,_,b,hb,hr,fun w2 hw=>?_,h3,hN▸s.put o.dst h2,?_⟩
 ·simp only[execOp,ho];rw[Sem.run_bind,h1 w2 hw];rfl
 ·unfold St.put;split
  ·rfl
  ·split<;>rfl
theorem Gr(s:Sim P N ι E σ a w){Γ:Ctx}(hN:Γ.N=N){o:Oper}{K:St->Prop}(hq:kW o.op=false)(h:vD P Γ o σ K){next:Act->World->Prop}{Q:Exit->Act->World->Prop}
  (hn:∀a' w',Left P N ι E σ w K a' w'->(oO Γ.own o.op=true->Same w w')->(∀T,xB σ o=some T->∀b,b<w.heap.size->(∀id,id∈T->∀base,ι id≠some (some (b,base)))->w'.heap[b]? =w.heap[b]?)->next a' w'):o.wp P a w next Q:=by
 obtain⟨n,hh,ss⟩:=σ;unfold vD at h;simp only[hq,H3,mK,mZ]at h;have hput:∀(n':Nat) (h':Hp) (x:AV),(St.put ⟨n',h',ss⟩ Γ.N o.dst x).h=h':=by
  intro n' h' x;unfold St.put;split
  ·rfl
  ·split<;>rfl
 have fin:(oO Γ.own o.op=true->Adds P (execOp a.eval o))->EGives P E w ι n hh (execOp a.eval o) (fun x n h=>K (St.put ⟨n,h,ss⟩ Γ.N o.dst x))->(oO Γ.own o.op=false->xB ⟨n,hh,ss⟩ o=none)->o.wp P a w next Q:=by
  rintro had ⟨x,v,w',ι',E',n',h',hrun,hk,hr,hrep,hx⟩ htn
  have hmild:oO Γ.own o.op=true->Same w w':=fun hm=>by
   rcases hrun with hrun|⟨hrun,_⟩
   ·exact had hm _ _ _ hrun
   ·exact had hm _ _ _ hrun
  have hleft:next (a.put o.dst v) w':=hn _ _ ⟨_,ι',E',hk,hN▸(s.keep hrep hx).put o.dst hr,by rw[hput];exact hx⟩ hmild (fun T hT b hb _=>by
   cases hm:oO Γ.own o.op with
   |true=>exact hmild hm b hb
   |false=>rw[htn hm]at hT;cases hT)
  unfold Oper.wp;rcases hrun with hrun|⟨hrun,rfl⟩
  ·rw[hrun,Oper.upon_value];exact hleft
  ·rw[hrun,Oper.upon_skip];exact hleft
 have Tt:∀{c:Call} {f:Operand},o.op=.call c->c.callee=.value f->aAe P E w ι hh Γ.own (St.ev ⟨n,hh,ss⟩ f) (Pq hh (St.ev ⟨n,hh,ss⟩ f) (c.args.toList.map (St.ev ⟨n,hh,ss⟩))) (execOp a.eval o) (fun x n h=>K (St.put ⟨n,h,ss⟩ Γ.N o.dst x))->o.wp P a w next Q:=by
  rintro c f ho hc ⟨fn,first,cap,vals,hfn,hrun,hcall⟩
  unfold Oper.wp;rw[hrun,Oper.upon_enter];refine hcall.mono ?_
  rintro e w' ⟨⟨v,x,n',h',ι',E',rfl,hk,hr,hrep,hx⟩,hmild,htouch⟩
  refine hn _ _ ⟨_,ι',E',hk,hN▸(s.keep hrep hx).put o.dst hr,by rw[hput];exact hx⟩ (fun hm=>hmild ?_) (fun T hT b hb hnot=>htouch b hb ?_);case refine_2=>
   unfold xB at hT;split at hT
   ·cases hT
   ·simp only[ho,hc,bN]at hT;subst hT;exact hnot
  rw[ho]at hm;simp only[oO,hc]at hm;cases f<;>simp only[St.ev]at hm hfn<;>first|(cases hm;done)|skip
  cases hfn;simpa using hm
 split at h
 ·rename_i c hc;split at h
  ·rename_i f hcal;exact Tt hc hcal (Qe s.rep s.ev hc hcal h)
  ·rename_i hnc;refine fin (fun hm=>?_) (Lx s.rep s.ev (by rw[hc];exact h)) (fun _=>?_);case refine_2=>
    unfold xB;split
    ·rfl
    ·rw[hc];simp only
   rw[hc]at hm;simp only[oO]at hm;split at hm
   ·rename_i hcc;exact absurd hcc (hnc _)
   ·cases hm
 ·rename_i c hc;cases hdst:o.dst with
  |some _=>simp only[hdst]at h
  |none=>
   simp only[hdst]at h;unfold aSA at h;split at h;case h_2=>exact h.elim
   rename_i hcal;split at h;case h_2=>exact h.elim
   rename_i t t' x k ht hx;split at h;case h_2=>exact h.elim
   rename_i e id str hm he hs hg;have hX:=s.ev x;rw[he]at hX;have hK:=xS hs (s.ev k);generalize hxv:a.eval x=xv at hX;cases hX with
   |mp _ b base hι=>
    have ea:=P5 ht;have eb:=P5 hx;have hds:a.defers=[]:=by
     have hd:=s.defers;rw[show get (St.mk n hh ss).s DS=none from hg]at hd;exact hd
    obtain⟨cs,hrun⟩:∃cs,(execOp a.eval o).run P w=.ok (.defer ⟨.builtin .delete c.argTypes o.type cs,#[.map (some b),.string str]⟩) w:=
     ⟨_,by simp[execOp,hc,resolve,hcal,eb,hxv,hK];rfl⟩
    unfold Oper.wp;rw[hrun,Oper.upon_defer];refine hn _ _ ⟨_,ι,E,h,⟨s.rep,fun t1 y h1 h2=>?_,by simp[hdst,Act.put];exact s.size,s.cap,?_⟩,Ext.refl⟩ (fun _=>Same.refl) (fun _ _ _ _ _=>rfl)
    ·rw[jA,aF (fun e=>h1 e.symm)]at h2;obtain⟨v,g1,g2⟩:=s.slots t1 y h1 h2;exact⟨v,by simpa[hdst,Act.put]using g1,g2⟩
    ·rw[jA,aH rfl];exact⟨b,base,c.argTypes,o.type,cs,t,e,hι,by simp[hdst,Act.put,hds],by rw[ea];rfl,hm⟩
 ·rename_i hnc hnd;refine fin (fun hm=>?_) (Lx s.rep s.ev h) (fun hm=>?_);case refine_2=>
   unfold xB;split
   ·rfl
   ·unfold oO at hm;split
    ·rename_i he;rw[he]at hm;cases hm
    ·rename_i he;rw[he]at hm;cases hm
    ·rename_i he;rw[he]at hm;cases hm
    ·rename_i he;exact absurd he (hnc _)
    ·rfl
  have lift:∀{x:Sem Value},Adds P x->Adds P (do pure (.value (<-x)):Sem Next):=fun hx=>Adds.bind hx fun _=>.pure _;unfold oO at hm;split at hm
  ·rename_i he;simp only[execOp,he];exact lift (S4 _)
  ·rename_i he;simp only[execOp,he];exact lift (aAv _ _)
  ·rename_i he;simp only[execOp,he];exact lift (Hg _ _ _)
  ·rename_i he;exact absurd he (hnc _)
  ·cases hm
theorem Vh{ops:Array Oper}{j:Nat}{oj:Oper}{t:Tmp}{b:Bool}(ho:ops[j]? =some oj)(hd:oj.dst=some t)(hv:a.tmps[t]? =some (.bool b)):yielded ops a.tmps j=some b:=by
 unfold yielded;simp only[ho,bU,hd,hv]
theorem zU(s:Sim P N ι E σ a w){Γ:Ctx}(hN:Γ.N=N){ops:Array Oper}{o:Oper}{K:St->Prop}(h:tO P Γ ops.toList o σ K):
  (Region.wanted o (yielded ops a.tmps)=true/\∃σ1,Sim P N ι E σ1 a w/\σ1.h=σ.h/\vD P Γ o σ1 K/\(o.guard=none->σ1=σ))\/
  (Region.wanted o (yielded ops a.tmps)=false/\∃σ1,K σ1/\Sim P N ι E σ1 (a.put o.dst undef) w/\σ1.h=σ.h):=by
 unfold tO at h;have hph:∀(n':Nat) (h':Hp) (ss:List (Nat×AV)) (x:AV),(St.put ⟨n',h',ss⟩ Γ.N o.dst x).h=h':=by
  intro n' h' ss x;unfold St.put;split
  ·rfl
  ·split<;>rfl
 cases hg:o.guard with
 |none=>
  simp only[hg]at h;exact .inl ⟨by simp[Region.wanted,hg],σ,s,rfl,h,fun _=>rfl⟩
 |some jw=>
  obtain⟨j,want⟩:=jw;simp only[hg]at h;have e:ops.toList[j]? =ops[j]? :=by simp
  rw[e]at h;cases ho:ops[j]? with
  |none=>simp[ho]at h
  |some oj=>
   simp only[ho]at h;cases hd:oj.dst with
   |none=>simp[hd]at h
   |some t=>
    simp only[hd]at h;obtain⟨n,hh,ss⟩:=σ;simp only[H3]at h;cases hgt:get ss t with
    |none=>simp[hgt]at h
    |some x=>
     have htd:t≠DS:=fun e=>by
      subst e;have hd:=s.defers;rw[show get (St.mk n hh ss).s DS=some x from hgt]at hd;cases x<;>first|exact hd.elim|(simp[hgt]at h;done)
     obtain⟨v,hv1,hv2⟩:=s.slots t x htd hgt;have skip:∀{ss'},Sim P N ι E ⟨n,hh,ss'⟩ a w->Sim P N ι E (St.put ⟨n,hh,ss'⟩ Γ.N o.dst (.tup [])) (a.put o.dst undef) w:=fun s'=>hN▸s'.put o.dst (.tup [] #[] rfl (fun i x y hx _=>by simp at hx));have wn:∀{b},v=.bool b->Region.wanted o (yielded ops a.tmps)=(b==want):=by
      intro b hb;unfold Region.wanted;simp only[hg,Vh ho hd (hb▸hv1)];cases b<;>cases want<;>rfl
     simp only[hgt]at h;split at h
     ·rename_i hx;cases hx;have hvb:=mR hv2;split at h
      ·exact .inl ⟨by rw[wn hvb];rfl,_,s,rfl,h,fun hh=>by cases hh⟩
      ·exact .inr ⟨by rw[wn hvb];rfl,_,h,skip s,hph _ _ _ _⟩
     ·rename_i hx;cases hx;have hvb:=mR hv2;split at h
      ·exact .inl ⟨by rw[wn hvb];rfl,_,s,rfl,h,fun hh=>by cases hh⟩
      ·exact .inr ⟨by rw[wn hvb];rfl,_,h,skip s,hph _ _ _ _⟩
     ·rename_i b hx;cases hx;have hvb:v=.bool b:=Ej hv2 rfl;have s':Sim P N ι E ⟨n,hh,(t,.v (.bool b))::ss⟩ a w:=s.more htd ⟨v,hv1,hvb▸.v _⟩;split at h
      ·obtain⟨h1,h2⟩:=h.elim;cases b with
       |true=>exact .inl ⟨by rw[wn hvb];rfl,_,s',rfl,h1 rfl,fun hh=>by cases hh⟩
       |false=>exact .inr ⟨by rw[wn hvb];rfl,_,h2 rfl,skip s',hph _ _ _ _⟩
      ·obtain⟨h1,h2⟩:=h.elim;cases b with
       |true=>exact .inr ⟨by rw[wn hvb];rfl,_,h1 rfl,skip s',hph _ _ _ _⟩
       |false=>exact .inl ⟨by rw[wn hvb];rfl,_,s',rfl,h2 rfl,fun hh=>by cases hh⟩
     ·rename_i hx;cases hx;have hvu:v=.tuple #[]:=by
       cases hv2 with
       |tup _ c hs _=>
        have:c=#[]:=dA (by simpa using hs.symm);rw[this]
      have hy:yielded ops a.tmps j=none:=by
       unfold yielded;simp only[ho,bU,hd,hv1,hvu]
      exact .inr ⟨by unfold Region.wanted;simp only[hg,hy];rfl,_,h,skip s,hph _ _ _ _⟩
     ·exact h.elim
theorem uW{Γ:Ctx}(hN:Γ.N=N){ops:Array Oper}{K:St->Prop}{Q:Exit->Act->World->Prop}:∀(l:List Nat) (rest:List Oper) {σ:St} {a:Act} {w:World} {ι:Inj} {E:Nat->Prop},Sim P N ι E σ a w->
  (∀(q:Nat),(l.map fun i=>ops[i]?)[q]? =(rest.map some)[q]?)->aJs P Γ ops.toList rest σ K->(∀a' w',Left P N ι E σ w K a' w'->Q .normal a' w')->wpOps P ops Q l a w
 |[],rest,σ,a,w,ι,E,s,hm,h,hQ=>by
  have:rest=[]:=by
   cases rest with
   |nil=>rfl
   |cons o r=>have:=hm 0;simp at this
  subst this;exact hQ a w ⟨σ,ι,E,h,s,Ext.refl⟩
 |i::l,[],σ,a,w,ι,E,s,hm,h,hQ=>by have:=hm 0;simp at this
 |i::l,o::rest,σ,a,w,ι,E,s,hm,h,hQ=>by
  have ho:ops[i]? =some o:=by have:=hm 0;simpa using this
  have hm':∀(q:Nat),(l.map fun i=>ops[i]?)[q]? =(rest.map some)[q]? :=fun q=>by have:=hm (q+1);simpa using this
  simp only[wpOps,ho];simp only[aJs]at h;rcases zU s hN h with⟨hw,σ1,s1,e1,h1,hg0⟩|⟨hw,σ1,h1,s1,e1⟩
  ·rw[aH hw];cases hq:kW o.op with
   |true=>
    obtain⟨v,σ',g1,g2,g3,g4⟩:=I2 s1 hN hq h1;refine .inl ?_;unfold Oper.wp;rw[g1 w (fun _=>.refl),Oper.upon_value];exact uW hN l rest g3 hm' g2 (fun a' w' ⟨σ2,ι2,E2,k,s2,x2⟩=>hQ a' w' ⟨σ2,ι2,E2,k,s2,by rw[g4,e1]at x2;exact x2⟩)
   |false=>
    refine .inl (Gr s1 hN hq h1 ?_)
    rintro a' w' ⟨σ',ι',E',k,s',x'⟩ _ _
    exact uW hN l rest s' hm' k (fun a2 w2 ⟨σ2,ι2,E2,k2,s2,x2⟩=>hQ a2 w2 ⟨σ2,ι2,E2,k2,s2,by rw[e1]at x';exact x'.trans x2⟩)
  ·rw[aF (by rw[hw];simp)];exact uW hN l rest s1 hm' h1 (fun a' w' ⟨σ2,ι2,E2,k,s2,x2⟩=>hQ a' w' ⟨σ2,ι2,E2,k,s2,by rw[e1]at x2;exact x2⟩)
/-! ### Whatever order is picked -/
def YN(P:Program)(ops:Array Oper)(o:Oper)(v:Value)(a:Act)(w:World):Prop:=
 (Region.wanted o (yielded ops a.tmps)=true/\∀w2,(Rd o.op=true->Same w w2)->(execOp a.eval o).run P w2=.ok (.value v) w2)\/(Region.wanted o (yielded ops a.tmps)=false/\v=undef)
theorem YN.later{ops:Array Oper}{o:Oper}{v:Value}{w':World}(h:YN P ops o v a w)(hs:Same w w'):YN P ops o v a w':=
 h.imp (fun⟨h1,h2⟩=>⟨h1,fun w2 h3=>h2 w2 fun hl=>hs.trans (h3 hl)⟩) id
def nO(P:Program)(own:FuncId->Bool)(ops:Array Oper)(Q:Exit->Act->World->Prop)(W:Nat->Nat->Prop):Nat->Array Bool->Act->World->Prop
 |0,L,a,w=>Region.ready .any ops L=[]/\Q .normal a w
 |f+1,L,a,w=>(Region.ready .any ops L=[]->Q .normal a w)/\∀i∈Region.ready .any ops L,∀o,ops[i]? =some o->
  (kW o.op=true->∃v,YN P ops o v a w/\nO P own ops Q W f (L.setIfInBounds i true) (a.put o.dst v) w)/\
  (kW o.op=false->wpOp P ops Q i (fun a' w'=>(oO own o.op=true->Same w w')/\(∀k b,W k b->oD ops ops.size i k=false->w'.heap[b]? =w.heap[b]?)/\nO P own ops Q W f (L.setIfInBounds i true) a' w') a w)
theorem vC{own:FuncId->Bool}{ops:Array Oper}{Q:Exit->Act->World->Prop}{W:Nat->Nat->Prop}:∀(f:Nat) (L:Array Bool) (a:Act) (w:World),nO P own ops Q W f L a w->wpAny P .any ops Q f L a w
 |0,_,_,_,h=>h
 |f+1,L,a,w,h=>⟨h.1,fun i hi=>by
  obtain⟨_,o,ho,_⟩:=mem_ready.1 hi;obtain⟨h1,h2⟩:=h.2 i hi o ho;cases hq:kW o.op with
  |true=>
   obtain⟨v,hy,hm⟩:=h1 hq;unfold wpOp;simp only[ho];rcases hy with⟨hw,hr⟩|⟨hw,rfl⟩
   ·simp only[hw,if_true,Oper.wp,hr w (fun _=>.refl),Oper.upon];exact .inl (vC f _ _ _ hm)
   ·simp only[hw,cK,if_false];exact vC f _ _ _ hm
  |false=>exact wpOp_mono (fun a' w' h'=>vC f _ a' w' h'.2.2) (h2 hq)⟩
theorem xD{own:FuncId->Bool}{ops:Array Oper}{Q:Exit->Act->World->Prop}{W W':Nat->Nat->Prop}(hW:∀i b,W' i b->W i b):∀(f:Nat) (L:Array Bool) (a:Act) (w:World),nO P own ops Q W f L a w->nO P own ops Q W' f L a w
 |0,_,_,_,h=>h
 |f+1,L,a,w,h=>⟨h.1,fun i hi o ho=>by
  obtain⟨h1,h2⟩:=h.2 i hi o ho;refine⟨fun hq=>?_,fun hq=>?_⟩
  ·obtain⟨v,hy,hm⟩:=h1 hq;exact⟨v,hy,xD hW f _ _ _ hm⟩
  ·exact wpOp_mono (fun a' w' h'=>⟨h'.1,fun k b hk=>h'.2.1 k b (hW k b hk),xD hW f _ a' w' h'.2.2⟩) (h2 hq)⟩
def Closed(ops:Array Oper)(L:Array Bool):Prop:=∀(j:Nat) oj,ops[j]? =some oj->L.getD j false=true->∀e∈oj.after,Region.binds .any e=true->L.getD e.on false=true
theorem zX{ops:Array Oper}{L:Array Bool}(hc:Closed ops L):∀(f:Nat) (j i:Nat) (oj:Oper),ops[j]? =some oj->(∀e∈oj.after,Region.binds .any e=true->L.getD e.on false=true)->oD ops f j i=true->L.getD i false=true
 |0,_,_,_,_,_,h=>by simp[oD]at h
 |f+1,j,i,oj,hj,hall,h=>by
  simp only[oD,hj]at h;obtain⟨e,he,hb⟩:=bR.1 h;have he:e∈oj.after:=by simpa using he
  simp only[aJ,bV]at hb;obtain⟨hb1,hb2⟩:=hb;have hl:=hall e (by simpa using he) hb1;rcases hb2 with hb2|hb2
  ·exact aY hb2▸hl
  ·cases ho:ops[e.on]? with
   |none=>
    cases f with
    |zero=>simp[oD]at hb2
    |succ f=>simp[oD,ho]at hb2
   |some o'=>exact zX hc f e.on i o' ho (fun e' he' hb'=>hc _ _ ho hl e' he' hb') hb2
theorem Closed.set{ops:Array Oper}{L:Array Bool}{i:Nat}(hc:Closed ops L)(hi:i∈Region.ready .any ops L):Closed ops (L.setIfInBounds i true):=by
 obtain⟨_,oi,hoi,hall⟩:=mem_ready.1 hi;intro j oj hj hl e he hb;by_cases hij:i=j
 ·subst hij;rw[hoi]at hj;cases hj;exact getD_set_true (hall e he hb)
 ·rw[getD_set_ne false hij]at hl;exact getD_set_true (hc j oj hj hl e he hb)
theorem lL{L:Array Bool}{i:Nat}(h:L.getD i false=true):L.getD i true=true:=by
 rcases aD i L.size with h'|h'
 ·simp[h']at h⊢;exact h
 ·simp[fE h']at h
theorem Px{ops:Array Oper}{o:Oper}{v:Value}(hs:D1 o.op=true)(hy:YN P ops o v a w):Yields P ops o v a:=by
 refine hy.imp (fun⟨hw,hv⟩=>⟨hw,fun w'=>hv w' fun hl=>?_⟩) id;unfold D1 at hs;rw[hl]at hs;cases hs
theorem Pv{own:FuncId->Bool}{ops:Array Oper}{Q:Exit->Act->World->Prop}{W:Nat->Nat->Prop}{F i:Nat}{oi:Oper}{v:Value}(hi:ops[i]? =some oi)(hqi:kW oi.op=true)(hsel:∀(j:Nat) (o:Oper) cs b,ops[j]? =some o->o.op≠.select cs b)
  (hQ:∀c a w,¬Q (.panic c) a w):
  ∀(f:Nat) (L:Array Bool) (a:Act) (w:World),Closed ops L->
   (∀j oj,ops[j]? =some oj->j≠i->L.getD j true=false->(∀e∈oj.after,Region.binds .any e=true->e.on≠i)->oi.apart ops oj=true)->
   (∀j oj,ops[j]? =some oj->L.getD j true=false->kW oj.op=false->D1 oi.op=true\/oO own oj.op=true\/oD ops F j i=true)->
   i∈Region.ready .any ops L->YN P ops oi v a w->nO P own ops Q W f (L.setIfInBounds i true) (a.put oi.dst v) w->nO P own ops Q W (f+1) L a w:=by
 intro f
 induction f with
 |zero=>
  intro L a w hc _ _ hr hy H;refine⟨fun h=>(by rw[h]at hr;cases hr),fun j hj oj hoj=>?_⟩;by_cases hji:j=i
  ·subst hji;rw[hi]at hoj;cases hoj;exact⟨fun _=>⟨v,hy,H⟩,fun h=>by rw[hqi]at h;cases h⟩
  ·have:=ready_mono hj hji;rw[H.1]at this;cases this
 |succ f ih=>
  intro L a w hc hfree heff hr hy H;refine⟨fun h=>(by rw[h]at hr;cases hr),fun j hj oj hoj=>?_⟩;by_cases hji:j=i
  ·subst hji;rw[hi]at hoj;cases hoj;exact⟨fun _=>⟨v,hy,H⟩,fun h=>by rw[hqi]at h;cases h⟩
  ·obtain⟨hjun,oj',hoj',hall⟩:=mem_ready.1 hj;rw[hoj]at hoj';cases hoj';have hiun:=(mem_ready.1 hr).1;refine⟨fun hqj=>?_,fun hqj=>?_⟩
   ·have hnot:∀e∈oj.after,Region.binds .any e=true->e.on≠i:=fun e he hb heq=>by
     have h1:=hall e he hb;rw[heq]at h1;rw[lL h1]at hiun;cases hiun
    obtain⟨h1,h2,h3⟩:=Oper.apart_spec (hfree j oj hoj hji hjun hnot);obtain⟨u,hyu,hm⟩:=(H.2 j (ready_mono hj hji) oj hoj).1 hqj;have hyj:YN P ops oj u a w:=by
     unfold YN at hyu⊢;rw[wanted_put oj a oi.dst v h1,execOp_put oj (fun cs b=>hsel j oj cs b hoj) a oi.dst v h1]at hyu;exact hyu
    have hyi:YN P ops oi v (a.put oj.dst u) w:=by
     unfold YN at hy⊢;rw[wanted_put oi a oj.dst u h3,execOp_put oi (fun cs b=>hsel i oi cs b hi) a oj.dst u h3];exact hy
    refine⟨u,hyj,ih _ _ _ (hc.set hj) (fun k ok hk hki hun hno=>?_) (fun k ok hk hun hqk=>?_) (ready_mono hr (Ne.symm hji)) hyi ?_⟩
    ·refine hfree k ok hk hki ?_ hno;by_cases hjk:j=k
     ·subst hjk;exact hjun
     ·rw[getD_set_ne true hjk]at hun;exact hun
    ·refine heff k ok hk ?_ hqk;by_cases hjk:j=k
     ·subst hjk;exact hjun
     ·rw[getD_set_ne true hjk]at hun;exact hun
    ·rw[fK _ _ hji,<-Act.put_comm a v u h2];exact hm
   ·rcases heff j oj hoj hjun hqj with hst|hml|hwt
    ·have hnot:∀e∈oj.after,Region.binds .any e=true->e.on≠i:=fun e he hb heq=>by
      have h1:=hall e he hb;rw[heq]at h1;rw[lL h1]at hiun;cases hiun
     have h1:=(H.2 j (ready_mono hj hji) oj hoj).2 hqj;have h2:=wpOp_put hoj (hfree j oj hoj hji hjun hnot) (fun cs b=>hsel i oi cs b hi) (fun cs b=>hsel j oj cs b hoj) (fun c a w h=>absurd h (hQ c _ w)) (Px hst hy) h1;refine wpOp_mono (fun a' w' h3=>⟨h3.2.1,h3.2.2.1,ih _ a' w' (hc.set hj) (fun k ok hk hki hun hno=>?_) (fun k ok hk hun hqk=>.inl hst) (ready_mono hr (Ne.symm hji)) (h3.1.imp (fun⟨q1,q2⟩=>⟨q1,fun w2 _=>q2 w2⟩) id) ?_⟩) h2
     ·refine hfree k ok hk hki ?_ hno;by_cases hjk:j=k
      ·subst hjk;exact hjun
      ·rw[getD_set_ne true hjk]at hun;exact hun
     ·rw[fK _ _ hji];exact h3.2.2.2
    ·have hnot:∀e∈oj.after,Region.binds .any e=true->e.on≠i:=fun e he hb heq=>by
      have h1:=hall e he hb;rw[heq]at h1;rw[lL h1]at hiun;cases hiun
     have h1:=(H.2 j (ready_mono hj hji) oj hoj).2 hqj;have hyS:YieldsIf P ops (fun w2=>Rd oi.op=true->Same w w2) oi v a:=hy;have h2:=wpOp_putIf hoj (hfree j oj hoj hji hjun hnot) (fun cs b=>hsel i oi cs b hi) (fun cs b=>hsel j oj cs b hoj) (fun c a w h=>absurd h (hQ c _ w)) hyS h1;refine wpOp_mono (fun a' w' h3=>⟨h3.2.1,h3.2.2.1,ih _ a' w' (hc.set hj) (fun k ok hk hki hun hno=>?_) (fun k ok hk hun hqk=>?_) (ready_mono hr (Ne.symm hji)) ((show YN P ops oi v a' w from h3.1).later (h3.2.1 hml)) ?_⟩) h2
     ·refine hfree k ok hk hki ?_ hno;by_cases hjk:j=k
      ·subst hjk;exact hjun
      ·rw[getD_set_ne true hjk]at hun;exact hun
     ·refine heff k ok hk ?_ hqk;by_cases hjk:j=k
      ·subst hjk;exact hjun
      ·rw[getD_set_ne true hjk]at hun;exact hun
     ·rw[fK _ _ hji];exact h3.2.2.2
    ·have:=zX hc F j i oj hoj hall hwt;rw[lL this]at hiun;cases hiun
def YR(P:Program)(ops:Array Oper)(R:Nat->Prop)(o:Oper)(v:Value)(a:Act)(w:World):Prop:=
 (Region.wanted o (yielded ops a.tmps)=true/\∀w2:World,(∀b,R b->w2.heap[b]? =w.heap[b]?)->(execOp a.eval o).run P w2=.ok (.value v) w2)\/(Region.wanted o (yielded ops a.tmps)=false/\v=undef)
theorem YR.yn{ops:Array Oper}{R:Nat->Prop}{o:Oper}{v:Value}(h:YR P ops R o v a w)(hl:Rd o.op=true)(hR:∀b,R b->b<w.heap.size):YN P ops o v a w:=
 h.imp (fun⟨h1,h2⟩=>⟨h1,fun w2 hs=>h2 w2 fun b hb=>hs hl b (hR b hb)⟩) id
theorem YR.later{ops:Array Oper}{R:Nat->Prop}{o:Oper}{v:Value}{w':World}(h:YR P ops R o v a w)(hs:∀b,R b->w'.heap[b]? =w.heap[b]?):YR P ops R o v a w':=
 h.imp (fun⟨h1,h2⟩=>⟨h1,fun w2 h3=>h2 w2 fun b hb=>(h3 b hb).trans (hs b hb)⟩) id
theorem Pw{own:FuncId->Bool}{ops:Array Oper}{Q:Exit->Act->World->Prop}{W:Nat->Nat->Prop}{R:Nat->Prop}{i:Nat}{oi:Oper}{v:Value}(hi:ops[i]? =some oi)(hqi:kW oi.op=true)(hld:Rd oi.op=true)(hsel:∀(j:Nat) (o:Oper) cs b,ops[j]? =some o->o.op≠.select cs b)
  (hQ:∀c a w,¬Q (.panic c) a w):
  ∀(f:Nat) (L:Array Bool) (a:Act) (w:World),Closed ops L->
   (∀j oj,ops[j]? =some oj->j≠i->L.getD j true=false->(∀e∈oj.after,Region.binds .any e=true->e.on≠i)->oi.apart ops oj=true)->
   i∈Region.ready .any ops L->(∀b,R b->b<w.heap.size)->YR P ops R oi v a w->nO P own ops Q (fun k b=>W k b\/(k=i/\R b)) f (L.setIfInBounds i true) (a.put oi.dst v) w->nO P own ops Q W (f+1) L a w:=by
 intro f
 induction f with
 |zero=>
  intro L a w hc _ hr hR hy H;refine⟨fun h=>(by rw[h]at hr;cases hr),fun j hj oj hoj=>?_⟩;by_cases hji:j=i
  ·subst hji;rw[hi]at hoj;cases hoj;exact⟨fun _=>⟨v,hy.yn hld hR,H⟩,fun h=>by rw[hqi]at h;cases h⟩
  ·have:=ready_mono hj hji;rw[H.1]at this;cases this
 |succ f ih=>
  intro L a w hc hfree hr hR hy H;refine⟨fun h=>(by rw[h]at hr;cases hr),fun j hj oj hoj=>?_⟩;by_cases hji:j=i
  ·subst hji;rw[hi]at hoj;cases hoj;exact⟨fun _=>⟨v,hy.yn hld hR,xD (fun _ _ h=>.inl h) _ _ _ _ H⟩,fun h=>by rw[hqi]at h;cases h⟩
  ·obtain⟨hjun,oj',hoj',hall⟩:=mem_ready.1 hj;rw[hoj]at hoj';cases hoj';have hiun:=(mem_ready.1 hr).1;have hnot:∀e∈oj.after,Region.binds .any e=true->e.on≠i:=fun e he hb heq=>by
    have h1:=hall e he hb;rw[heq]at h1;rw[lL h1]at hiun;cases hiun
   have hnw:oD ops ops.size j i=false:=by
    cases hw:oD ops ops.size j i with
    |false=>rfl
    |true=>
     have:=zX hc ops.size j i oj hoj hall hw;rw[lL this]at hiun;cases hiun
   refine⟨fun hqj=>?_,fun hqj=>?_⟩
   ·obtain⟨h1,h2,h3⟩:=Oper.apart_spec (hfree j oj hoj hji hjun hnot);obtain⟨u,hyu,hm⟩:=(H.2 j (ready_mono hj hji) oj hoj).1 hqj;have hyj:YN P ops oj u a w:=by
     unfold YN at hyu⊢;rw[wanted_put oj a oi.dst v h1,execOp_put oj (fun cs b=>hsel j oj cs b hoj) a oi.dst v h1]at hyu;exact hyu
    have hyi:YR P ops R oi v (a.put oj.dst u) w:=by
     unfold YR at hy⊢;rw[wanted_put oi a oj.dst u h3,execOp_put oi (fun cs b=>hsel i oi cs b hi) a oj.dst u h3];exact hy
    refine⟨u,hyj,ih _ _ _ (hc.set hj) (fun k ok hk hki hun hno=>?_) (ready_mono hr (Ne.symm hji)) hR hyi ?_⟩
    ·refine hfree k ok hk hki ?_ hno;by_cases hjk:j=k
     ·subst hjk;exact hjun
     ·rw[getD_set_ne true hjk]at hun;exact hun
    ·rw[fK _ _ hji,<-Act.put_comm a v u h2];exact hm
   ·have h1:=(H.2 j (ready_mono hj hji) oj hoj).2 hqj;have hyS:YieldsIf P ops (fun w2=>∀b,R b->w2.heap[b]? =w.heap[b]?) oi v a:=hy;have h2:=wpOp_putIf hoj (hfree j oj hoj hji hjun hnot) (fun cs b=>hsel i oi cs b hi) (fun cs b=>hsel j oj cs b hoj) (fun c a w h=>absurd h (hQ c _ w)) hyS h1;refine wpOp_mono (fun a' w' h3=>?_) h2;obtain⟨q1,q2,q3,q4⟩:=h3;have hsame:∀b,R b->w'.heap[b]? =w.heap[b]? :=fun b hb=>q3 i b (.inr ⟨rfl,hb⟩) hnw;refine⟨q2,fun k b hk=>q3 k b (.inl hk),ih _ a' w' (hc.set hj) (fun k ok hk hki hun hno=>?_) (ready_mono hr (Ne.symm hji)) (fun b hb=>?_) ((show YR P ops R oi v a' w from q1).later hsame) ?_⟩
    ·refine hfree k ok hk hki ?_ hno;by_cases hjk:j=k
     ·subst hjk;exact hjun
     ·rw[getD_set_ne true hjk]at hun;exact hun
    ·have e:=hsame b hb;rw[bL (hR b hb)]at e;exact(eO.1 e).1
    ·rw[fK _ _ hji];exact q4
def WInv(Z:List (Nat×Nat))(W:Nat->Nat->Prop)(ι:Inj)(E:Nat->Prop)(w:World):Prop:=∀i b,W i b->b<w.heap.size/\(¬E b\/∃id base,(i,id)∈Z/\ι id=some (some (b,base)))
theorem WInv.ext{Z:List (Nat×Nat)}{W:Nat->Nat->Prop}{ι':Inj}{E':Nat->Prop}{w':World}{n:Nat}{h h':Hp}(hW:WInv Z W ι E w)(r:Rep ι E w n h)(x:Ext ι h E w ι' h' E' w'):WInv Z W ι' E' w':=fun i b hb=>by
 obtain⟨h1,h2⟩:=hW i b hb;refine⟨cN h1 x.size,h2.imp (fun hE hE'=>?_) (fun⟨id,base,h3,h4⟩=>⟨id,base,h3,x.inj _ _ h4⟩)⟩;exact hE ((x.old b h1 (fun ho=>hE (r.own_E ho))).2.1 hE')
theorem L4{h:Hp}{id:Nat}(hb:hasB h id=true):∃o,get h id=some o:=by
 unfold hasB at hb;split at hb
 ·rename_i o ho;exact⟨o,ho⟩
 ·cases hb
theorem Gi{h:Hp}{id:Nat}:∀{T:List Nat},apartB h id T=true->∀x,x∈T->x≠id/\∃o,get h x=some o
 |[],_,x,hx=>by cases hx
 |y::r,hb,x,hx=>by
  simp only[apartB,aJ,dX]at hb;rcases aZ.1 hx with rfl|hx
  ·exact⟨(fun e=>by subst e;have h1:=hb.1;rw[qQ]at h1;cases h1),L4 hb.2.1⟩
  ·exact Gi hb.2.2 x hx
theorem Hb{ops:List Oper}{j:Nat}{o:Oper}:∀{Z:List (Nat×Nat)},xC ops j σ o Z=true->kW o.op=false->∀i id,(i,id)∈Z->oD ops.toArray ops.toArray.size j i=false->(∃ob,get σ.h id=some ob)/\∃T,xB σ o=some T/\apartB σ.h id T=true
 |[],_,_,i,id,hm,_=>by cases hm
 |(i0,id0)::r,hb,hq,i,id,hm,hw=>by
  simp only[xC,aJ,bV,hq,cK,false_or]at hb;rcases aZ.1 hm with hm|hm
  ·cases hm;rcases hb.1 with h1|⟨h1,h2⟩
   ·rw[hw]at h1;cases h1
   ·refine⟨L4 h1,?_⟩;split at h2
    ·rename_i T hT;exact⟨T,hT,h2⟩
    ·cases h2
  ·exact Hb hb.2 hq i id hm hw
theorem R0{Γ:Ctx}(hN:Γ.N=N){ops:Array Oper}(hsel:Region.noSelect ops=true){K:St->Prop}{Q:Exit->Act->World->Prop}(hQp:∀c a w,¬Q (.panic c) a w):∀(s:Sched) {L:Array Bool} {σ:St} {a:Act} {w:World} {ι:Inj} {E:Nat->Prop} {Z:List (Nat×Nat)} {W:Nat->Nat->Prop},Sim P N ι E σ a w->Closed ops L->WInv Z W ι E w->
  vH P Γ ops.toList Z s σ K->(∀a' w',Left P N ι E σ w K a' w'->Q .normal a' w')->
  (lF Γ.own ops none s L=true->nO P Γ.own ops Q W s.depth L a w)/\
  ∀d,(∀i∈s.heads,i∈Region.ready .any ops L)->lF Γ.own ops (some d) s L=true->∀i∈s.heads,∀o,ops[i]? =some o->
   (kW o.op=true->∃v,YN P ops o v a w/\nO P Γ.own ops Q W d (L.setIfInBounds i true) (a.put o.dst v) w)/\
   (kW o.op=false->wpOp P ops Q i (fun a' w'=>(oO Γ.own o.op=true->Same w w')/\(∀k b,W k b->oD ops ops.size i k=false->w'.heap[b]? =w.heap[b]?)/\nO P Γ.own ops Q W d (L.setIfInBounds i true) a' w') a w):=by
 -- one operation of the ready ones, in whatever manner
 have step:∀{i:Nat} {o:Oper} {σ:St} {a:Act} {w:World} {ι:Inj} {E:Nat->Prop} {Z:List (Nat×Nat)} {W:Nat->Nat->Prop} {f:Nat} {L':Array Bool} {K':St->Prop},ops[i]? =some o->Sim P N ι E σ a w->WInv Z W ι E w->xC ops.toList i σ o Z=true->tO P Γ ops.toList o σ K'->
   (∀a' w' σ' ι' E',K' σ'->Sim P N ι' E' σ' a' w'->Ext ι σ.h E w ι' σ'.h E' w'->WInv Z W ι' E' w'->nO P Γ.own ops Q W f L' a' w')->
   (kW o.op=true->∃v,YN P ops o v a w/\nO P Γ.own ops Q W f L' (a.put o.dst v) w)/\(kW o.op=false->wpOp P ops Q i (fun a' w'=>(oO Γ.own o.op=true->Same w w')/\(∀k b,W k b->oD ops ops.size i k=false->w'.heap[b]? =w.heap[b]?)/\nO P Γ.own ops Q W f L' a' w') a w):=by
  intro i o σ a w ι E Z W f L' K' ho s hW hwb h hnext;rcases zU s hN h with⟨hw,σ1,s1,e1,h1,hg0⟩|⟨hw,σ1,h1,s1,e1⟩
  ·refine⟨fun hq=>?_,fun hq=>?_⟩
   ·obtain⟨v,σ',g1,g2,g3,g4⟩:=I2 s1 hN hq h1;exact⟨v,.inl ⟨hw,g1⟩,hnext _ _ σ' ι E g2 g3 (by rw[g4,e1];exact Ext.refl) hW⟩
   ·unfold wpOp;simp only[ho,hw,if_true];refine .inl (Gr s1 hN hq h1 ?_)
    rintro a' w' ⟨σ',ι',E',k,s',x'⟩ hm ht
    rw[e1]at x';refine⟨hm,fun k b hk hnw=>?_,hnext _ _ σ' ι' E' k s' x' (hW.ext s.rep x')⟩;obtain⟨hb,hE|⟨id,base,hz,hι⟩⟩:=hW k b hk
    ·exact(x'.old b hb (fun hO=>hE (s.rep.own_E hO))).1
    ·obtain⟨⟨ob,hob⟩,T,hT,hap⟩:=Hb hwb hq k id hz (by simpa using hnw);have hg:o.guard=none:=by
      unfold xB at hT;split at hT
      ·cases hT
      ·assumption
     have hσ:=hg0 hg;subst hσ;refine ht T hT b hb fun x hx base' hx'=>?_;obtain⟨hne,ob',hob'⟩:=Gi hap x hx;exact hne (s.rep.sep _ _ _ _ _ _ _ hob' hob hx' hι)
  ·refine⟨fun hq=>⟨undef,.inr ⟨hw,rfl⟩,hnext _ _ σ1 ι E h1 s1 (by rw[e1];exact Ext.refl) hW⟩,fun hq=>?_⟩;unfold wpOp;simp only[ho,hw,cK,if_false];exact⟨fun _=>.refl,fun _ _ _ _=>trivial,hnext _ _ σ1 ι E h1 s1 (by rw[e1];exact Ext.refl) hW⟩
 intro s
 induction s with
 |done=>
  intro L σ a w ι E Z W s hc hW h hQ;refine⟨fun hok=>?_,fun d hr hok=>(by simp[lF]at hok)⟩;simp only[lF,gI]at hok;exact⟨hok,hQ a w ⟨σ,ι,E,h,s,Ext.refl⟩⟩
 |one i first rest ih=>
  intro L σ a w ι E Z W s hc hW h hQ;refine⟨fun hok=>?_,fun d hr hok=>(by simp[lF]at hok)⟩;have e:ops.toList[i]? =ops[i]? :=by simp
  simp only[vH,e]at h;cases ho:ops[i]? with
  |none=>simp[ho]at h
  |some o=>
   simp only[ho]at h;cases hwb:xC ops.toList i σ o Z with
   |false=>simp[hwb]at h
   |true=>
   simp only[hwb]at h;cases first with
   |true=>
    simp only[lF,aJ]at hok;obtain⟨h1,h2,h3,h4,h5⟩:=hok;have hir:i∈Region.ready .any ops L:=by simpa using h1
    have hq:kW o.op=true:=by simpa[ho]using h3
    obtain⟨v,hy,hm⟩:=(step (f:=rest.depth) (L':=L.setIfInBounds i true) ho s hW hwb h (fun a' w' σ' ι' E' k s' x' hW'=>(ih s' (hc.set hir) hW' k (fun a2 w2 ⟨σ2,ι2,E2,k2,s2,x2⟩=>hQ a2 w2 ⟨σ2,ι2,E2,k2,s2,x'.trans x2⟩)).1 h5)).1 hq;refine Pv ho hq (Region.noSelect_spec hsel) hQp (F:=ops.size) rest.depth L a w hc (Region.free_spec ho h2) (fun j oj hoj hun hqj=>?_) hir hy hm;rcases Bool.or_eq_true_iff.1 h4 with h4|h4
    ·exact .inl (by simpa[ho]using h4)
    refine .inr ?_;rw[bT]at h4;have:=h4 j (eG.2 (eO.1 hoj).1);simp only[hun,hoj,dG,cY,hqj,fG,bV]at this;exact this
   |false=>
    simp only[lF,aJ,aL]at hok;obtain⟨h1,h2⟩:=hok;have hir:i∈Region.ready .any ops L:=by rw[h1];simp
    refine⟨fun h0=>(by rw[h0]at h1;cases h1),fun j hj oj hoj=>?_⟩;rw[h1]at hj;have hji:j=i:=by simpa using hj
    subst hji;rw[ho]at hoj;cases hoj;exact step ho s hW hwb h (fun a' w' σ' ι' E' k s' x' hW'=>(ih s' (hc.set hir) hW' k (fun a2 w2 ⟨σ2,ι2,E2,k2,s2,x2⟩=>hQ a2 w2 ⟨σ2,ι2,E2,k2,s2,x'.trans x2⟩)).1 h2)
 |alt i sa more iha ihm=>
  intro L σ a w ι E Z W s hc hW h hQ;have e:ops.toList[i]? =ops[i]? :=by simp
  simp only[vH,e]at h;cases ho:ops[i]? with
  |none=>simp[ho]at h
  |some o=>
   simp only[ho]at h;cases hwb:xC ops.toList i σ o Z with
   |false=>simp[hwb]at h
   |true=>
   simp only[hwb]at h
   -- the first of the chain, or one behind it
   have chain:∀d,sa.depth=d->(∀j∈i::more.heads,j∈Region.ready .any ops L)->lF Γ.own ops none sa (L.setIfInBounds i true)=true->lF Γ.own ops (some d) more L=true->∀j∈i::more.heads,∀oj,ops[j]? =some oj->
     (kW oj.op=true->∃v,YN P ops oj v a w/\nO P Γ.own ops Q W d (L.setIfInBounds j true) (a.put oj.dst v) w)/\
     (kW oj.op=false->wpOp P ops Q j (fun a' w'=>(oO Γ.own oj.op=true->Same w w')/\(∀k b,W k b->oD ops ops.size j k=false->w'.heap[b]? =w.heap[b]?)/\nO P Γ.own ops Q W d (L.setIfInBounds j true) a' w') a w):=by
    intro d hd hr h3 h4 j hj oj hoj;rcases aZ.1 hj with rfl|hj
    ·rw[ho]at hoj;cases hoj;subst hd;exact step ho s hW hwb h.1 (fun a' w' σ' ι' E' k s' x' hW'=>(iha s' (hc.set (hr _ zx)) hW' k (fun a2 w2 ⟨σ2,ι2,E2,k2,s2,x2⟩=>hQ a2 w2 ⟨σ2,ι2,E2,k2,s2,x'.trans x2⟩)).1 h3)
    ·exact(ihm s hc hW h.2 hQ).2 d (fun j hj=>hr j (by simp[hj])) h4 j hj oj hoj
   refine⟨fun hok=>?_,fun d hr hok=>?_⟩
   ·simp only[lF,aJ,aL]at hok;obtain⟨h1,h3,h4⟩:=hok;refine⟨fun h0=>(by rw[h0]at h1;cases h1),fun q hq oq hoq=>?_⟩;exact chain sa.depth rfl (fun j hj=>by rw[h1];exact hj) h3 h4 q (by rw[h1]at hq;exact hq) oq hoq
   ·simp only[lF,aJ,beq_iff_eq]at hok;obtain⟨h2,h3,h4⟩:=hok;exact chain d h2 hr h3 h4
 |stop=>
  intro L σ a w ι E Z W s hc hW h hQ;exact⟨fun hok=>(by simp[lF]at hok),fun d hr hok i hi=>(by simp[Sched.heads]at hi)⟩
 |wch i rest ih=>
  intro L σ a w ι E Z W s hc hW h hQ;refine⟨fun hok=>?_,fun d hr hok=>(by simp[lF]at hok)⟩;have e:ops.toList[i]? =ops[i]? :=by simp
  simp only[vH,e]at h;cases ho:ops[i]? with
  |none=>simp[ho]at h
  |some o=>
   simp only[ho]at h;split at h;case h_2=>exact h.elim
   rename_i t X hop hgd;simp only[lF,aJ]at hok;obtain⟨h1,h2,h5⟩:=hok;have hir:i∈Region.ready .any ops L:=by simpa using h1
   have hq:kW o.op=true:=by rw[hop];rfl
   have main:∀(Z':List (Nat×Nat)),(∀p,p∈Z->p∈Z')->(∀b,aLb E ι (σ.ev X) b->¬E b\/∃id base,(i,id)∈Z'/\ι id=some (some (b,base)))->tO P Γ ops.toList o σ (fun σ'=>vH P Γ ops.toList Z' rest σ' K)->nO P Γ.own ops Q W (rest.depth+1) L a w:=by
    intro Z' hsub hrd h;rcases zU s hN h with⟨hw,σ1,s1,e1,hx,hg0⟩|⟨hw,σ1,hx,s1,e1⟩
    ·have hσ:=hg0 hgd;subst hσ;obtain⟨v,σ',b,hb,hr,g1,g2,g3,g4⟩:=Yo s hN hop hx;refine Pw (R:=fun x=>x=b) ho hq (by rw[hop];rfl) (Region.noSelect_spec hsel) hQp rest.depth L a w hc (Region.free_spec ho h2) hir (fun x hx=>by subst hx;exact hb) (.inl ⟨hw,fun w2 h=>g1 w2 (h b rfl)⟩) ?_;refine(ih g3 (hc.set hir) (Z:=Z') (fun k x hk=>?_) g2 (fun a2 w2 ⟨σ2,ι2,E2,k2,s2,x2⟩=>hQ a2 w2 ⟨σ2,ι2,E2,k2,s2,by rw[g4]at x2;exact x2⟩)).1 h5;rcases hk with hk|⟨rfl,rfl⟩
     ·obtain⟨q1,q2⟩:=hW k x hk;exact⟨q1,q2.imp id fun⟨id,base,q3,q4⟩=>⟨id,base,hsub _ q3,q4⟩⟩
     ·exact⟨hb,hrd _ hr⟩
    ·have:Region.wanted o (yielded ops a.tmps)=true:=by simp[Region.wanted,hgd]
     rw[this]at hw;cases hw
   split at h
   ·rename_i cs he;exact main Z (fun _ h=>h) (fun b hb=>.inl (by rw[he]at hb;exact hb)) h
   ·rename_i id off he;refine main ((i,id)::Z) (fun _ h=>.tail _ h) (fun b hb=>.inr ?_) h;rw[he]at hb;obtain⟨base,hb⟩:=hb;exact⟨id,base,.head _,hb⟩
   ·rename_i id sz q off he;refine main ((i,id)::Z) (fun _ h=>.tail _ h) (fun b hb=>.inr ?_) h;rw[he]at hb;obtain⟨base,hb⟩:=hb;exact⟨id,base,.head _,hb⟩
   ·exact h.elim
end
end Go.Vm
