/- Lemmas. -/
import Derived.RowKit3
import Derived.WideKeyArgs
import Derived.Deep.Frames
import Derived.OpenShut
import Derived.Test.YtgicddadddhonaaGreatDoorM7
set_option linter.unusedVariables false
set_option linter.unusedSimpArgs false
set_option maxRecDepth 100000
set_option maxHeartbeats 4000000
namespace Go.Vm
structure Ex (p:Nat) (ι:Inj) (h:Hp) (E:Nat->Prop) (w:World) (ι':Inj) (h':Hp) (E':Nat->Prop) (w':World):Prop where
 os:w'.os=w.os
 tape:w'.tape=w.tape
 output:w'.output=w.output
 size:w.heap.size<=w'.heap.size
 inj:∀id q,id<p->ι id=some q->ι' id=some q
 old:∀b,b<w.heap.size->¬Own ι h b->w'.heap[b]? =w.heap[b]? /\(E' b↔E b)
 own:∀b,b<w.heap.size->Own ι' h' b->Own ι h b
 some:∀a,(w.cell? a).isSome=true->(w'.cell? a).isSome=true
 mark:∀a,a.block<w.heap.size->w'.frozen? a=w.frozen? a
 drawn:w.drawn<=w'.drawn
theorem Ext.ex{p:Nat}{ι ι':Inj}{h h':Hp}{E E':Nat->Prop}{w w':World}(x:Ext ι h E w ι' h' E' w'):Ex p ι h E w ι' h' E' w':=
 ⟨x.os,x.tape,x.output,x.size,fun id q _ hq=>x.inj id q hq,x.old,x.own,x.some,x.mark,x.drawn⟩
theorem Ex.trans{p:Nat}{ι ι' ι'':Inj}{h h' h'':Hp}{E E' E'':Nat->Prop}{w w' w'':World}(x:Ex p ι h E w ι' h' E' w')(y:Ex p ι' h' E' w' ι'' h'' E'' w''):Ex p ι h E w ι'' h'' E'' w'' where
 os:=y.os.trans x.os
 tape:=y.tape.trans x.tape
 output:=y.output.trans x.output
 size:=bC x.size y.size
 inj:=fun id q hi hq=>y.inj _ _ hi (x.inj _ _ hi hq)
 old:=fun b hb hn=>by
  obtain⟨h1,h2⟩:=x.old b hb hn;obtain⟨h3,h4⟩:=y.old b (cN hb x.size) (fun ho=>hn (x.own b hb ho));exact⟨h3.trans h1,h4.trans h2⟩
 own:=fun b hb ho=>x.own b hb (y.own b (cN hb x.size) ho)
 some:=fun a ha=>y.some a (x.some a ha)
 mark:=fun a ha=>(y.mark a (cN ha x.size)).trans (x.mark a ha)
 drawn:=bC x.drawn y.drawn
section
variable {P:Program} {E:Nat->Prop} {w:World} {ι:Inj} {N:Nat} {σ:St} {a:Act}
def aKg(P:Program)(N p:Nat)(ι:Inj)(E:Nat->Prop)(σ:St)(w:World)(Q:Exit->St->Prop)(e:Exit)(a':Act)(w':World):Prop:=
 ∃σ' ι' E',Q e σ'/\Sim P N ι' E' σ' a' w'/\Ex p ι σ.h E w ι' σ'.h E' w'
theorem wO{s:List (Nat×AV)}:∀{ts:List Nat} {K:List (Nat×AV)->Prop},Ri s ts K->∃r,K r/\(∀t x,get r t=some x->get s t=some x)/\∀t,t∈ts->get r t=get s t
 |[],K,h=>⟨[],h,fun t x hg=>by simp[get]at hg,fun t ht=>by cases ht⟩
 |t::ts,K,h=>by
  simp only[Ri,Fi]at h;split at h
  ·rename_i x hx;obtain⟨r,h1,h2,h3⟩:=wO h;refine⟨_,h1,fun t' x' hg=>?_,fun t' ht=>?_⟩
   ·rw[jA]at hg;split at hg
    ·rename_i e;subst e;cases hg;exact hx
    ·exact h2 t' x' hg
   ·rw[jA];split
    ·rename_i e;subst e;exact hx.symm
    ·rename_i e;rcases aZ.1 ht with rfl|ht
     ·exact absurd rfl e
     ·exact h3 t' ht
  ·rename_i hn;obtain⟨r,h1,h2,h3⟩:=wO h;refine⟨r,h1,h2,fun t' ht=>?_⟩;rcases aZ.1 ht with rfl|ht
   ·cases hr:get r t' with
    |none=>exact(by cases hs:get s t' with
     |none=>rfl
     |some x=>rw[hn]at hs;cases hs)
    |some x=>rw[h2 t' x hr]
   ·exact h3 t' ht
theorem Kg{n:Nat}{h:Hp}(r:Rep ι E w n h){id c:Nat}{cs:List AV}{x:AV}(hg:get h id=some (.box cs))(hx:∀y v,cs[c]? =some y->Rel E w ι y v->Rel E w ι x v):
  Rep ι E w n ((id,.box (cs.set c x))::del h id)/\Ext ι h E w ι ((id,.box (cs.set c x))::del h id) E w:=by
 have hget:∀{i o},get ((id,Vm.Obj.box (cs.set c x))::del h id) i=some o->∃o',get h i=some o':=by
  intro i o hi;rw[jA]at hi;split at hi
  ·rename_i e;subst e;exact⟨_,hg⟩
  ·rename_i e;rw[kV,aF e]at hi;exact⟨o,hi⟩
 refine⟨⟨r.fresh,fun i o hi=>?_,fun i i' o o' b base base' h1 h2 h3 h4=>?_,r.bound,r.glob⟩,⟨rfl,rfl,rfl,aO _,fun _ _ h=>h,fun _ _ _=>⟨rfl,Iff.rfl⟩,fun b _ ⟨i,o,base,h1,h2⟩=>?_,fun _ h=>h,fun _ _=>rfl,aO _⟩⟩
 ·rw[jA]at hi;split at hi
  ·rename_i e;subst e;cases hi;obtain⟨b,base,h1,h2,h3,h4⟩:=r.obj id _ hg;refine⟨b,base,h1,h2,h3,fun i y hy=>?_⟩;rw[List.getElem?_set]at hy;split at hy
   ·rename_i e;subst e;split at hy
    ·rename_i hlt;cases hy;obtain⟨u,g1,g2,g3⟩:=h4 c _ (aE hlt);exact⟨u,g1,g2,hx _ _ (aE hlt) g3⟩
    ·cases hy
   ·exact h4 i y hy
  ·rename_i e;rw[kV,aF e]at hi;exact r.obj i o hi
 ·obtain⟨p1,q1⟩:=hget h1;obtain⟨p2,q2⟩:=hget h2;exact r.sep i i' _ _ b base base' q1 q2 h3 h4
 ·obtain⟨p1,q1⟩:=hget h1;exact⟨i,p1,base,q1,h2⟩
theorem Sd{n:Nat}{h h':Hp}(r:Rep ι E w n h)(hg:∀i,get h' i=get h i):Rep ι E w n h'/\Ext ι h E w ι h' E w:=
 ⟨⟨r.fresh,fun i o hi=>r.obj i o (by rw[<-hg];exact hi),fun i i' o o' b base base' h1 h2 h3 h4=>r.sep i i' o o' b base base' (by rw[<-hg];exact h1) (by rw[<-hg];exact h2) h3 h4,r.bound,r.glob⟩,
  ⟨rfl,rfl,rfl,aO _,fun _ _ h=>h,fun _ _ _=>⟨rfl,Iff.rfl⟩,fun b _ ⟨i,o,base,h1,h2⟩=>⟨i,o,base,by rw[<-hg];exact h1,h2⟩,fun _ h=>h,fun _ _=>rfl,aO _⟩⟩
theorem aEE{n:Nat}{h:Hp}(r:Rep ι E w n h){i sz:Nat}{xs:List AV}(hg:get h i=some (.arr sz xs)):
  ∃q,ι i=some q/\Rep (ι.set n q) E w (n+1) ((n,.arr sz xs)::del h i)/\Ext ι h E w (ι.set n q) ((n,.arr sz xs)::del h i) E w:=by
 obtain⟨q,hq⟩:∃q,ι i=some q:=by
  rcases r.obj i _ hg with⟨h1,_⟩|⟨b,base,h1,_⟩<;>exact⟨_,h1⟩
 have hx:=Inj.set_ext r q;have hne:∀{j o},get h j=some o->j≠n:=fun hg e=>by subst e;rw[r.get_n]at hg;cases hg
 have hset:∀{id},id≠n->(ι.set n q) id=ι id:=fun hi=>by simp[Inj.set,hi]
 have hget:∀{j o},get ((n,Vm.Obj.arr sz xs)::del h i) j=some o->(j=n/\o=.arr sz xs)\/(j≠n/\j≠i/\get h j=some o):=by
  intro j o hj;rw[jA]at hj;split at hj
  ·rename_i e;subst e;cases hj;exact .inl ⟨rfl,rfl⟩
  ·rename_i e;rw[kV]at hj;split at hj
   ·cases hj
   ·rename_i e2;exact .inr ⟨Ne.symm e,Ne.symm e2,hj⟩
 refine⟨q,hq,⟨fun id hid=>?_,fun j o hj=>?_,fun j j' o o' b base base' h1 h2 h3 h4=>?_,r.bound,r.glob⟩,⟨rfl,rfl,rfl,aO _,hx,fun b hb hn=>⟨rfl,Iff.rfl⟩,fun b hb hO=>?_,fun _ h=>h,fun _ _=>rfl,aO _⟩⟩
 ·rw[hset zo];exact r.fresh id zo
 ·rcases hget hj with⟨rfl,rfl⟩|⟨e1,e2,hj⟩
  ·exact(r.obj i _ hg).pure rfl (by rw[Inj.set_same,hq])
  ·exact(r.obj j o hj).keep Keeps.refl hx (fun b base hb=>r.own_E ⟨j,o,base,hj,hb⟩) (fun _ _ _=>rfl)
 ·rcases hget h1 with⟨rfl,rfl⟩|⟨e1,e2,k1⟩<;>rcases hget h2 with⟨rfl,rfl⟩|⟨e3,e4,k2⟩
  ·rfl
  ·rw[Inj.set_same,<-hq]at h3;rw[hset e3]at h4;exact absurd (r.sep _ _ _ _ _ _ _ hg k2 h3 h4).symm e4
  ·rw[Inj.set_same,<-hq]at h4;rw[hset e1]at h3;exact absurd (r.sep _ _ _ _ _ _ _ k1 hg h3 h4) e2
  ·rw[hset e1]at h3;rw[hset e3]at h4;exact r.sep _ _ _ _ _ _ _ k1 k2 h3 h4
 ·obtain⟨j,o,base,hj,hb'⟩:=hO;rcases hget hj with⟨rfl,rfl⟩|⟨e1,e2,hj⟩
  ·rw[Inj.set_same,<-hq]at hb';exact⟨i,_,base,hg,hb'⟩
  ·rw[hset e1]at hb';exact⟨j,o,base,hj,hb'⟩
theorem Kd{n:Nat}{hh:Hp}(r0:Rep ι E w n hh){id c:Nat}{K:Nat->Hp->Prop}(h:aJD n hh id c K):∃n1 h1 ι' E',K n1 h1/\Rep ι' E' w n1 h1/\Ext ι hh E w ι' h1 E' w:=by
 unfold aJD at h;simp only[nA,mZ,mK]at h;split at h;case h_2=>exact h.elim
 rename_i cs hg;split at h;case h_2=>exact h.elim
 rename_i i sz off len hc;split at h;case h_2=>exact h.elim
 rename_i sz' xs hgi;obtain⟨q,hq,g2,g3⟩:=aEE r0 hgi;have hne:id≠n:=fun e=>by subst e;rw[r0.get_n]at hg;cases hg
 have hni:i≠n:=fun e=>by subst e;rw[r0.get_n]at hgi;cases hgi
 have hii:i≠id:=fun e=>by subst e;rw[hg]at hgi;cases hgi
 have hgn:get ((n,Vm.Obj.arr sz' xs)::del hh i) id=some (.box cs):=by
  rw[jA,aF (Ne.symm hne),kV,aF hii];exact hg
 obtain⟨r2,x2⟩:=Kg g2 (c:=c) (x:=.os n sz off len) hgn (fun y v hy hr=>by
  rw[hc]at hy;cases hy;cases hr with
  |osz _ _ _ a=>exact .osz _ _ _ _
  |os _ _ _ _ b base cap hι hcap hcell=>
   refine .os n sz off len b base cap ?_ hcap hcell;rw[Inj.set_same];simp only[Inj.set,hni,if_false,hq]at hι;exact hι)
 obtain⟨r3,x3⟩:=Sd r2 (h':=(n,.arr sz' xs)::(id,.box (cs.set c (.os n sz off len)))::del (del hh i) id) (fun j=>by
  simp only[jA,kV];by_cases h1:id=j
  ·subst h1;simp[Ne.symm hne]
  ·by_cases h2:n=j
   ·subst h2;simp[h1,hne]
   ·simp[h1,h2,Ne.symm h1])
 exact⟨_,_,_,_,h,r3,(g3.trans x2).trans x3⟩
theorem kS:∀(l:List Hint) {σ:St} {ι:Inj} {E:Nat->Prop} {K:St->Prop},Sim P N ι E σ a w->nG σ l K->∃σ' ι' E',K σ'/\Sim P N ι' E' σ' a w/\Ext ι σ.h E w ι' σ'.h E' w
 |[],σ,ι,E,K,s,h=>⟨σ,ι,E,h,s,Ext.refl⟩
 |.freeze t::r,⟨n,hh,ss⟩,ι,E,K,s,h=>by
  simp only[nG,Fi,mZ]at h;split at h;case h_2=>exact h.elim
  rename_i x hb hx;have htd:t≠DS:=fun e=>by rw[e,qQ]at hb;cases hb
  obtain⟨v,hv1,hv2⟩:=s.slots t x htd hx;obtain⟨y,h1,h2,_⟩:=yW s.rep (S:=fun id=>id∈tD x) hv2 (fun _ h=>h) h;obtain⟨rr,xx⟩:=release s.rep (fun id=>id∈tD x) (Sub.dels (tD x)) (fun id o hg hm=>by rw[pK,aH hm]at hg;cases hg);have s':=(s.keep rr xx).more (t:=t) (x:=y) htd ⟨v,hv1,h1⟩;obtain⟨σ',ι',E',k,s2,x2⟩:=kS r s' h2;exact⟨σ',ι',E',k,s2,xx.trans x2⟩
 |.virt t sz::r,⟨n,hh,ss⟩,ι,E,K,s,h=>by
  simp only[nG,mK]at h;split at h;case h_3=>exact h.elim
  case h_2=>exact kS r s h
  rename_i hx;have htd:=s.notDS hx (fun _ _ h=>by cases h);obtain⟨v,hv1,hv2⟩:=s.slots t _ htd hx;cases hv2;obtain⟨ι',g1,g2,g3⟩:=qY s.rep Sub.refl sz none;have s':=(s.keep g2 g3).more (t:=t) htd ⟨_,hv1,g1⟩;obtain⟨σ',ι2,E',k,s2,x2⟩:=kS r s' h;exact⟨σ',ι2,E',k,s2,g3.trans x2⟩
 |.keep ts::r,⟨n,hh,ss⟩,ι,E,K,s,h=>by
  simp only[nG]at h;obtain⟨s',h1,h2,h3⟩:=wO h;have s2:Sim P N ι E ⟨n,hh,s'⟩ a w:=⟨s.rep,fun t x ht hg=>s.slots t x ht (h2 t x hg),s.size,s.cap,by rw[h3 DS List.mem_cons_self];exact s.defers⟩
  obtain⟨σ',ι',E',k,s3,x3⟩:=kS (σ:=⟨n,hh,s'⟩) r s2 h1;exact⟨σ',ι',E',k,s3,x3⟩
 |.virtB t c sz::r,⟨n,hh,ss⟩,ι,E,K,s,h=>by
  simp only[nG,nA,mZ,mK]at h;split at h;case h_2=>exact h.elim
  rename_i id hx;split at h;case h_2=>exact h.elim
  rename_i cs hg;split at h;case h_3=>exact h.elim
  case h_2=>exact kS r s h
  rename_i hc;obtain⟨ι',g1,g2,g3⟩:=qY s.rep Sub.refl sz none;have s1:=s.keep g2 g3;have hgn:get ((n,Vm.Obj.arr sz [])::hh) id=some (.box cs):=by
   rw[jA,aF (fun e=>by subst e;rw[s.rep.get_n]at hg;cases hg)];exact hg
  have hne:id≠n:=fun e=>by subst e;rw[s.rep.get_n]at hg;cases hg
  obtain⟨r2,x2⟩:=Kg s1.rep (c:=c) (x:=.os n sz 0 0) hgn (fun y v hy hr=>by
   rw[hc]at hy;cases hy;cases hr;exact .osz _ _ _ _)
  obtain⟨r3,x3⟩:=Sd r2 (h':=(n,.arr sz [])::(id,.box (cs.set c (.os n sz 0 0)))::del hh id) (fun i=>by
   simp only[jA,kV];by_cases h1:id=i
   ·subst h1;simp[Ne.symm hne]
   ·by_cases h2:n=i
    ·subst h2;simp[h1,hne]
    ·simp[h1,h2,Ne.symm h1])
  have s3:=(s1.keep r2 x2).keep r3 x3;obtain⟨σ',ι2,E',k,s4,x4⟩:=kS r s3 h;exact⟨σ',ι2,E',k,s4,((g3.trans x2).trans x3).trans x4⟩
 |.renewB t c::r,⟨n,hh,ss⟩,ι,E,K,s,h=>by
  simp only[nG]at h;split at h;case h_2=>exact h.elim
  obtain⟨n1,h1,ι1,E1,k1,k2,k3⟩:=Kd s.rep h;obtain⟨σ',ι2,E2,k,s4,x4⟩:=kS r (s.keep k2 k3) k1;exact⟨σ',ι2,E2,k,s4,k3.trans x4⟩
 |.renewI id c::r,⟨n,hh,ss⟩,ι,E,K,s,h=>by
  simp only[nG]at h;obtain⟨n1,h1,ι1,E1,k1,k2,k3⟩:=Kd s.rep h;obtain⟨σ',ι2,E2,k,s4,x4⟩:=kS r (s.keep k2 k3) k1;exact⟨σ',ι2,E2,k,s4,k3.trans x4⟩
 |.freezeB t::r,⟨n,hh,ss⟩,ι,E,K,s,h=>by
  simp only[nG,nA,mZ]at h;split at h;case h_2=>exact h.elim
  rename_i id hx;split at h;case h_2=>exact h.elim
  rename_i cs hg;split at h;case h_2=>exact h.elim
  rename_i he;obtain⟨ds,E',k1,k2,k3⟩:=Sc s.rep hg (fun hm=>by rw[elemN_spec.2 hm]at he;cases he) h;obtain⟨σ',ι2,E2,k,s4,x4⟩:=kS r (s.keep k2 k3) k1;exact⟨σ',ι2,E2,k,s4,k3.trans x4⟩
 |.flatS t::r,⟨n,hh,ss⟩,ι,E,K,s,h=>by
  simp only[nG]at h;split at h;case h_2=>exact h.elim
  obtain⟨h1,E1,k1,k2,k3⟩:=wA s.rep h;obtain⟨σ',ι2,E2,k,s4,x4⟩:=kS r (s.keep k2 k3) k1;exact⟨σ',ι2,E2,k,s4,k3.trans x4⟩
 |.flatB t c::r,⟨n,hh,ss⟩,ι,E,K,s,h=>by
  simp only[nG]at h;split at h;case h_2=>exact h.elim
  split at h;case h_2=>exact h.elim
  split at h;case h_2=>exact h.elim
  obtain⟨h1,E1,k1,k2,k3⟩:=wA s.rep h;obtain⟨σ',ι2,E2,k,s4,x4⟩:=kS r (s.keep k2 k3) k1;exact⟨σ',ι2,E2,k,s4,k3.trans x4⟩
 |.asL t::r,⟨n,hh,ss⟩,ι,E,K,s,h=>by
  simp only[nG]at h;split at h;case h_3=>exact h.elim
  case h_2=>exact kS r s h
  rename_i hx;have htd:=s.notDS hx (fun _ _ h=>by cases h);obtain⟨v,hv1,hv2⟩:=s.slots t _ htd hx;cases hv2;have s2:=s.more (t:=t) (x:=.lst []) htd ⟨_,hv1,.lnil none 0⟩;exact kS (σ:=⟨n,hh,(t,.lst [])::ss⟩) r s2 h
theorem Ny(ops:Array Oper):Closed ops (Array.replicate ops.size false):=by
 intro j oj hj hl;rcases aD j ops.size with h|h
 ·simp[h]at hl
 ·simp[h]at hl
theorem K3{Γ:Ctx}(hN:Γ.N=N)(hm:P.follows .mixedOrders=true){id:Nat}{ops:Array Oper}{draw:Bool}{K:St->Prop}(s:Sim P N ι E σ a w)(h:Pa P Γ id ops.toList draw σ K){Q:Exit->Act->World->Prop}(hQ:∀a' w',Left P N ι E σ w K a' w'->Q .normal a' w'):
  (Code.region id ops draw).wp P Q a w:=by
 unfold Pa at h;obtain⟨σ1,ι1,E1,h1,s1,x1⟩:=kS _ s h;cases draw with
 |false=>
  refine wp_region (uW hN (List.range ops.size) ops.toList s1 (fun q=>?_) h1 (fun a' w' ⟨σ2,ι2,E2,k,s2,x2⟩=>hQ a' w' ⟨σ2,ι2,E2,k,s2,x1.trans x2⟩));simp only[bX];rcases aD q ops.size with hq|hq
  ·simp[fC hq,hq]
  ·simp[hq]
 |true=>
  simp only at h1;split at h1;case h_2=>exact h1.elim
  rename_i pl hpl;obtain⟨hok,h2⟩:=h1.elim;have hok':Fw Γ.own ops pl=true:=by simpa using hok
  simp only[Fw,aJ,beq_iff_eq]at hok';obtain⟨hsel,hd,hp⟩:=hok';obtain⟨rd,xd⟩:=Em s1.rep;have sd:Sim P N ι1 E1 σ1 a {w with drawn:=w.drawn+1}:=s1.keep rd xd;refine wp_mono (Q:=fun e a' w'=>e=.normal/\Left P N ι E σ w K a' w') ?_ (fun e a' w' ⟨he,hl⟩=>he▸hQ a' w' hl);refine wp_region_any hm (vC (W:=fun _ _=>False) (own:=Γ.own) _ _ _ _ ?_);have goal:=R0 hN hsel (Q:=fun e a' w'=>e=.normal/\Left P N ι E σ w K a' w') (fun c a w h=>by cases h.1) pl sd (Ny ops) (Z:=[]) (W:=fun _ _=>False) (fun _ _ h=>h.elim) h2 (fun a' w' ⟨σ2,ι2,E2,k,s2,x2⟩=>⟨rfl,σ2,ι2,E2,k,s2,(x1.trans xd).trans x2⟩);have goal:=goal.1 hp;rw[hd]at goal;exact goal
/-! ### names changed -/
theorem M0{ρ:Nat->Option Nat}{ι':Inj}(hρ:∀id j,ρ id=some j->ι' id=ι j){x y:AV}{v:Value}(hx:pQ ρ x=some y)(hy:Rel E w ι y v):Rel E w ι' x v:=by
 have same:pQ ρ x=some x->x.noref1=true->Rel E w ι' x v:=fun h1 h2=>by
  rw[h1]at hx;cases hx;exact hy.noref1 h2
 cases x with
 |op id off=>
  simp only[pQ]at hx;cases hj:ρ id with
  |none=>simp[hj]at hx
  |some j=>
   simp only[hj,bN]at hx;subst hx;cases hy with
   |op _ _ b base hι=>exact .op id off b base (by rw[hρ _ _ hj];exact hι)
 |ep id sz i off=>
  simp only[pQ]at hx;cases hj:ρ id with
  |none=>simp[hj]at hx
  |some j=>
   simp only[hj,bN]at hx;subst hx;cases hy with
   |ep _ _ _ _ b base hι=>exact .ep id sz i off b base (by rw[hρ _ _ hj];exact hι)
 |os id sz off len=>
  simp only[pQ]at hx;cases hj:ρ id with
  |none=>simp[hj]at hx
  |some j=>
   simp only[hj,bN]at hx;subst hx;cases hy with
   |osz _ _ _ a=>exact .osz id sz off a
   |os _ _ _ _ b base cap hι hc hcell=>exact .os id sz off len b base cap (by rw[hρ _ _ hj];exact hι) hc hcell
 |mp id=>
  simp only[pQ]at hx;cases hj:ρ id with
  |none=>simp[hj]at hx
  |some j=>
   simp only[hj,bN]at hx;subst hx;cases hy with
   |mp _ b base hι=>exact .mp id b base (by rw[hρ _ _ hj];exact hι)
 |dfr=>exact .dfr _ _ _
 |agg=>simp[pQ]at hx
 |tup=>simp[pQ]at hx
 |fn f fs cs=>
  cases fs with
  |nil=>cases cs with
   |nil=>exact same rfl rfl
   |cons _ _=>simp[pQ]at hx
  |cons _ _=>simp[pQ]at hx
 |_=>exact same rfl rfl
theorem zQ{ρ:Nat->Option Nat}{ι':Inj}(hρ:∀id j,ρ id=some j->ι' id=ι j):∀{xs ys:List AV} {c:Array Value},F8 ρ xs=some ys->RL E w ι ys c->RL E w ι' xs c
 |[],ys,c,hx,hy=>by
  simp only[F8,bN]at hx;subst hx;cases hy.nil;exact oZ
 |x::xs,ys,c,hx,hy=>by
  simp only[F8]at hx;split at hx
  ·rename_i y ys' h1 h2;cases hx;obtain⟨v,vs,rfl,g1,g2⟩:=hy.head;exact RL.cons (M0 hρ h1 g1) (zQ hρ h2 g2)
  ·cases hx
theorem F9{ρ:Nat->Option Nat}{ι':Inj}(hρ:∀id j,ρ id=some j->ι' id=ι j){x y:AV}{v:Value}(hx:vJ ρ x=some y)(hy:Rel E w ι y v):Rel E w ι' x v:=by
 cases x with
 |fn f a b=>
  simp only[vJ]at hx;split at hx
  ·rename_i a' b' h1 h2;cases hx;cases hy with
   |fn _ _ _ F C hF hC k1 k2=>
    have g1:=zQ hρ h1 (⟨hF,k1⟩:RL E w ι a' F);have g2:=zQ hρ h2 (⟨hC,k2⟩:RL E w ι b' C);exact .fn f _ _ _ _ g1.1 g2.1 g1.2 g2.2
  ·cases hx
 |_=>exact M0 hρ hx hy
theorem yB{ρ:Nat->Option Nat}{ι':Inj}(hρ:∀id j,ρ id=some j->ι' id=ι j):∀{xs ys:List AV} {c:Array Value},yK ρ xs=some ys->RL E w ι ys c->RL E w ι' xs c
 |[],ys,c,hx,hy=>by
  simp only[yK,bN]at hx;subst hx;cases hy.nil;exact oZ
 |x::xs,ys,c,hx,hy=>by
  simp only[yK]at hx;split at hx
  ·rename_i y ys' h1 h2;cases hx;obtain⟨v,vs,rfl,g1,g2⟩:=hy.head;exact RL.cons (F9 hρ h1 g1) (yB hρ h2 g2)
  ·cases hx
theorem M3{ρ:Nat->Option Nat}:∀{xs ys:List AV} {i:Nat} {x:AV},yK ρ xs=some ys->xs[i]? =some x->∃y,ys[i]? =some y/\vJ ρ x=some y
 |[],ys,i,x,_,hx=>by simp at hx
 |z::zs,ys,i,x,hs,hx=>by
  simp only[yK]at hs;split at hs
  ·rename_i y ys' e1 e2;cases hs;cases i with
   |zero=>simp at hx;subst hx;exact⟨y,rfl,e1⟩
   |succ i=>
    obtain⟨y2,g1,g2⟩:=M3 (i:=i) (x:=x) e2 (by simpa using hx);exact⟨y2,by simpa using g1,g2⟩
  ·cases hs
theorem Z5{ρ:Nat->Option Nat}{ι':Inj}(hρ:∀id j,ρ id=some j->ι' id=ι j){x y:AV}{v:Value}(hx:tH ρ x=some y)(hy:Rel E w ι y v):Rel E w ι' x v:=by
 cases x with
 |agg cs=>
  simp only[tH]at hx;split at hx
  ·rename_i ds hd;cases hx;cases hy with
   |agg _ c hs h=>
    have:=yB hρ hd ⟨hs,h⟩;exact .agg _ _ this.1 this.2
  ·cases hx
 |fn f p q=>
  simp only[tH]at hx;split at hx
  ·rename_i p' q' h1 h2;cases hx;cases hy with
   |fn _ _ _ F C hF hC g1 g2=>
    have t1:=yB hρ h1 ⟨hF,g1⟩;have t2:=yB hρ h2 ⟨hC,g2⟩;exact .fn f _ _ _ _ t1.1 t2.1 t1.2 t2.2
  ·cases hx
 |_=>exact F9 hρ hx hy
theorem L6:∀{ρ:List (Nat×Nat)},aCw ρ=true->∀{i i' j},get ρ i=some j->get ρ i'=some j->i=i'
 |[],_,i,i',j,h1,_=>by simp[get]at h1
 |(k,v)::r,h,i,i',j,h1,h2=>by
  simp only[aCw,aJ,bT]at h;obtain⟨ha,hr⟩:=h;have hnv:∀{q u},get r q=some u->u≠v:=by
   intro q u hg;have hm:∀{l:List (Nat×Nat)} {q u},get l q=some u->(q,u)∈l:=by
    intro l
    induction l with
    |nil=>intro q u hg;simp[get]at hg
    |cons p l ih=>
     obtain⟨k',v'⟩:=p;intro q u hg;rw[jA]at hg;split at hg
     ·rename_i e;subst e;cases hg;simp
     ·exact aS _ (ih hg)
   have:=(ha _ (hm hg)).2;intro e;subst e;rw[qQ]at this;simp at this
  rw[jA]at h1 h2;split at h1<;>split at h2
  ·omega
  ·cases h1;exact absurd rfl (hnv h2)
  ·cases h2;exact absurd rfl (hnv h1)
  ·exact L6 hr h1 h2
theorem Gj{n:Nat}:∀{ρ:List (Nat×Nat)},Id n ρ=true->∀{i j},get ρ i=some j->i<n
 |[],_,i,j,h1=>by simp[get]at h1
 |(k,v)::r,h,i,j,h1=>by
  simp only[Id,aJ]at h;rw[jA]at h1;split at h1
  ·rename_i e;subst e;have h':k+1<=n:=by simpa[Nat.blt]using h.1
   exact h'
  ·exact Gj h.2 h1
theorem Lz{ρ:List (Nat×Nat)}:∀{p:Nat},aBD ρ p=true->∀i,i<p->get ρ i=some i
 |0,_,i,hi=>by omega
 |k+1,h,i,hi=>by
  simp only[aBD,aJ]at h;obtain⟨h1,h2⟩:=h;by_cases hik:i=k
  ·subst hik;split at h1
   ·rename_i j hj;rw[hj,aY h1]
   ·cases h1
  ·exact Lz h2 i zo
theorem Ow{ρ:List (Nat×Nat)}:∀{s:List (Nat×AV)} {σ:St},LeS ρ s σ->∀{t x},get s t=some x->∃y,tH (get ρ) x=some y/\get σ.s t=some y
 |[],σ,_,t,x,hg=>by simp[get]at hg
 |(k,z)::r,σ,h,t,x,hg=>by
  simp only[LeS]at h;rw[jA]at hg;split at hg
  ·rename_i e;subst e;cases hg;have:=h.1;split at this
   ·rename_i y hy;exact⟨y,hy,this⟩
   ·exact this.elim
  ·exact Ow h.2 hg
theorem D3{ρ:List (Nat×Nat)}:∀{s:Hp} {σ:St},LeH ρ s σ->∀{id o},get s id=some o->∃j o',get ρ id=some j/\Km (get ρ) o=some o'/\get σ.h j=some o'
 |[],σ,_,t,x,hg=>by simp[get]at hg
 |(k,z)::r,σ,h,t,x,hg=>by
  simp only[LeH]at h;rw[jA]at hg;split at hg
  ·rename_i e;subst e;cases hg;have:=h.1;split at this
   ·rename_i j o' hj ho;exact⟨j,o',hj,ho,this⟩
   ·exact this.elim
  ·exact D3 h.2 hg
theorem Le.sim{p:Nat}{s:St}(hle:Le p s σ)(sm:Sim P N ι E σ a w):∃ι',Sim P N ι' E s a w/\Ex p ι σ.h E w ι' s.h E w:=by
 obtain⟨ρ,hb,hS,hH⟩:=hle;simp only[aJ]at hb;obtain⟨h1,h2,h3⟩:=hb
 let ι':Inj:=fun id=>match get ρ id with
  |some j=>ι j
  |none=>none
 have hρ:∀id j,get ρ id=some j->ι' id=ι j:=fun id j hj=>by simp only[ι',hj]
 have hown:∀b,Own ι' s.h b->Own ι σ.h b:=by
  rintro b ⟨id,o,base,g1,g2⟩
  obtain⟨j,o',a1,a2,a3⟩:=D3 hH g1;exact⟨j,o',base,a3,by rw[<-hρ id j a1];exact g2⟩
 refine⟨ι',⟨⟨fun id hid=>?_,fun id o hg=>?_,fun id id' o o' b base base' e1 e2 e3 e4=>?_,sm.rep.bound,sm.rep.glob⟩,fun t x ht hg=>?_,sm.size,sm.cap,?_⟩,
  ⟨rfl,rfl,rfl,aO _,fun id q hid hq=>by rw[hρ id id (Lz h3.1 id hid)];exact hq,fun _ _ _=>⟨rfl,Iff.rfl⟩,fun b _ ho=>hown b ho,fun _ h=>h,fun _ _=>rfl,aO _⟩⟩
 ·simp only[ι'];split
  ·rename_i j hj;have:=Gj h2 hj;omega
  ·rfl
 ·obtain⟨j,o',a1,a2,a3⟩:=D3 hH hg;have ho:=sm.rep.obj j o' a3;cases o with
  |box cs=>
   simp only[Km]at a2;split at a2
   ·rename_i ds hd;cases a2;obtain⟨b,base,b1,b2,b3,b4⟩:=ho;refine⟨b,base,by rw[hρ id j a1];exact b1,b2,b3,fun i c hc=>?_⟩;obtain⟨y,hy1,hy2⟩:=M3 hd hc;obtain⟨u,c1,c2,c3⟩:=b4 i y hy1;exact⟨u,c1,c2,F9 hρ hy2 c3⟩
   ·cases a2
  |arr sz xs=>
   simp only[Km,bN]at a2;subst a2;rcases ho with⟨b1,b2⟩|⟨b,base,b1,b2⟩
   ·exact .inl ⟨by rw[hρ id j a1];exact b1,b2⟩
   ·exact .inr ⟨b,base,by rw[hρ id j a1];exact b1,b2⟩
  |spc s=>
   cases s with
   |it mid τ L l=>
    simp only[Km]at a2;split at a2;case h_2=>cases a2
    rename_i i;split at a2;case h_2=>cases a2
    rename_i jm hjm;cases a2;obtain⟨b,base,b1,b2,b3,ob,b4,k0,bm,since,seen,c0,k1,k2,k3⟩:=ho;exact⟨b,base,by rw[hρ id j a1];exact b1,b2,b3,ob,b4,k0,bm,since,seen,c0,k1,fun x e=>by cases e;obtain⟨bb,hb⟩:=k2 jm rfl;exact⟨bb,by rw[hρ _ _ hjm];exact hb⟩,k3⟩
   |m f=>
    simp only[Km,bN]at a2;subst a2;obtain⟨b,base,b1,b2⟩:=ho;exact⟨b,base,by rw[hρ id j a1];exact b1,b2⟩
   |mt f τ=>
    simp only[Km,bN]at a2;subst a2;obtain⟨b,base,b1,b2⟩:=ho;exact⟨b,base,by rw[hρ id j a1];exact b1,b2⟩
 ·obtain⟨j,p1,a1,a2,a3⟩:=D3 hH e1;obtain⟨j',p2,b1,b2,b3⟩:=D3 hH e2;rw[hρ id j a1]at e3;rw[hρ id' j' b1]at e4;have:=sm.rep.sep _ _ _ _ _ _ _ a3 b3 e3 e4;subst this;exact L6 h1 a1 b1
 ·obtain⟨y,y1,y2⟩:=Ow hS hg;obtain⟨v,v1,v2⟩:=sm.slots t y ht y2;exact⟨v,v1,Z5 hρ y1 v2⟩
 ·have hd:=sm.defers;cases hg:get s.s DS with
  |none=>
   have hb:=h3.2;unfold aMe at hb;rw[hg]at hb;cases hg2:get σ.s DS with
   |none=>rw[hg2]at hd;exact hd
   |some y=>rw[hg2]at hb;cases hb
  |some x=>
   obtain⟨y,y1,y2⟩:=Ow hS hg;rw[y2]at hd;cases y<;>first|exact hd.elim|skip
   rename_i j str;obtain⟨b,base,aT,ty,cs,t,e,k1,k2⟩:=hd;have hx:∃i,x=.dfr i str/\get ρ i=some j:=by
    cases x with
    |agg cs=>simp only[tH]at y1;split at y1<;>cases y1
    |fn f a b=>simp only[tH]at y1;split at y1<;>cases y1
    |dfr i s1=>
     simp only[tH,vJ,pQ]at y1;split at y1
     ·rename_i j' hj;cases y1;exact⟨i,rfl,hj⟩
     ·cases y1
    |tup=>simp[tH,vJ,pQ]at y1
    |op=>simp only[tH,vJ,pQ]at y1;split at y1<;>cases y1
    |ep=>simp only[tH,vJ,pQ]at y1;split at y1<;>cases y1
    |os=>simp only[tH,vJ,pQ]at y1;split at y1<;>cases y1
    |mp=>simp only[tH,vJ,pQ]at y1;split at y1<;>cases y1
    |_=>simp[tH,vJ,pQ]at y1
   obtain⟨i,rfl,hi⟩:=hx;exact⟨b,base,aT,ty,cs,t,e,by rw[hρ i j hi];exact k1,k2⟩
theorem Lp0.elim{p:Nat}{body:St->(Exit->St->Prop)->Prop}{Q:Exit->St->Prop}(h:Lp0 p body σ Q):∃(G:Type) (S:G->St) (Inv:G->Prop) (μ:G->Nat),(∃g,Inv g/\Le p (S g) σ)/\
  ∀g,Inv g->body (S g) fun e σ'=>match e with
   |.normal=>∃g',Inv g'/\μ g'<μ g/\Le p (S g') σ'
   |e=>Q e σ':=h.out
def Py(P:Program)(c:Code)(Q:Exit->Act->World->Prop)(a:Act)(w:World):Prop:=
 ∀b k cs,∃e a' w',Q e a' w'/\Arrives P (lone (b.at a (.code c::.inLoop c::k)) cs w) b k cs e a' w'
theorem Gz{c:Code}{Q:Exit->Act->World->Prop}{a:Act}{w:World}(h:c.wp P (Exit.then (Py P c Q) Q) a w):Py P c Q a w:=by
 intro b k cs;obtain⟨e,a₁,w₁,hq,harr⟩:=h b (.inLoop c::k) cs;cases e with
 |normal=>
  obtain⟨e₂,a₂,w₂,hq₂,harr₂⟩:=hq b k cs;exact⟨e₂,a₂,w₂,hq₂,.of_steps (Steps.trans harr (.one step_inLoop)) harr₂⟩
 |exit id=>exact⟨_,a₁,w₁,hq,.pass (x:=.inLoop c) rfl (fun _ _=>.inl zx) harr⟩
 |goto l=>exact⟨_,a₁,w₁,hq,.pass (x:=.inLoop c) rfl (fun _ _=>.inl zx) harr⟩
 |ret=>exact⟨_,a₁,w₁,hq,.pass (x:=.inLoop c) rfl (fun _ _=>.inl zx) harr⟩
 |panic ch=>exact⟨_,a₁,w₁,hq,.pass (x:=.inLoop c) rfl (fun _ _=>.inl zx) harr⟩
 |outgrown=>exact⟨_,a₁,w₁,hq,.pass (x:=.inLoop c) rfl (fun _ _=>.inl zx) harr⟩
theorem Uh{c:Code}{Q:Exit->Act->World->Prop}{a:Act}{w:World}(h:Py P c Q a w):(Code.loop c).wp P Q a w:=by
 intro b k cs;obtain⟨e,a',w',hq,harr⟩:=h b k cs;exact⟨e,a',w',hq,.of_steps (.one step_loop) harr⟩
theorem Ro{c:Code}{Q:Exit->Act->World->Prop}(I:Nat->Act->World->Prop)(round:∀n a w,I n a w->c.wp P (Exit.then (fun a' w'=>∃n',n'<n/\I n' a' w') Q) a w):∀(n:Nat) (a:Act) (w:World),I n a w->Py P c Q a w:=by
 intro n
 induction n using Nat.strongRecOn with
 |ind n ih=>
  intro a w hI;refine Gz (wp_mono (round n a w hI) ?_);intro e a' w' hq;cases e with
  |normal=>obtain⟨n',hlt,h'⟩:=hq;exact ih n' hlt a' w' h'
  |exit id=>exact hq
  |goto l=>exact hq
  |ret=>exact hq
  |panic ch=>exact hq
  |outgrown=>exact hq
theorem Qm{Γ:Ctx}(hN:Γ.N=N)(hm:P.follows .mixedOrders=true):∀(c:Code) {σ:St} {a:Act} {w:World} {ι:Inj} {E:Nat->Prop} {Q:Exit->St->Prop},Sim P N ι E σ a w->qR P Γ c σ Q->c.wp P (aKg P N Γ.np ι E σ w Q) a w:=by
 intro c
 induction c with
 |skip=>intro σ a w ι E Q s h;exact wp_skip ⟨σ,ι,E,h,s,Ext.refl.ex⟩
 |region id ops draw=>intro σ a w ι E Q s h;exact K3 hN hm s h (fun a' w' ⟨σ',ι',E',k,s',x'⟩=>⟨σ',ι',E',k,s',x'.ex⟩)
 |seq x y ihx ihy=>
  intro σ a w ι E Q s h;simp only[qR]at h;split at h
  ·obtain⟨G,S,Inv,h1,h2⟩:=h.out;refine wp_seq (wp_mono (ihx s h1) ?_)
   rintro e a' w' ⟨σ',ι',E',k,s',x'⟩
   cases e with
   |normal=>
    obtain⟨g,hg,hle⟩:=k;obtain⟨ι0,s0,x0⟩:=hle.sim s';exact wp_mono (ihy s0 (h2 g hg)) (fun e2 a2 w2 ⟨σ2,ι2,E2,k2,s2,x2⟩=>⟨σ2,ι2,E2,k2,s2,(x'.trans x0).trans x2⟩)
   |exit i=>exact⟨σ',ι',E',k,s',x'⟩
   |goto l=>exact⟨σ',ι',E',k,s',x'⟩
   |ret=>exact⟨σ',ι',E',k,s',x'⟩
   |panic ch=>exact⟨σ',ι',E',k,s',x'⟩
   |outgrown=>exact⟨σ',ι',E',k,s',x'⟩
  ·refine wp_seq (wp_mono (ihx s h) ?_)
   rintro e a' w' ⟨σ',ι',E',k,s',x'⟩
   cases e with
   |normal=>exact wp_mono (ihy s' k) (fun e2 a2 w2 ⟨σ2,ι2,E2,k2,s2,x2⟩=>⟨σ2,ι2,E2,k2,s2,x'.trans x2⟩)
   |exit i=>exact⟨σ',ι',E',k,s',x'⟩
   |goto l=>exact⟨σ',ι',E',k,s',x'⟩
   |ret=>exact⟨σ',ι',E',k,s',x'⟩
   |panic ch=>exact⟨σ',ι',E',k,s',x'⟩
   |outgrown=>exact⟨σ',ι',E',k,s',x'⟩
 |cond c x y ihx ihy=>
  intro σ a w ι E Q s h;have hc:=s.ev c;simp only[qR]at h;split at h
  ·rename_i he;rw[he]at hc;exact wp_cond (mR hc) (by simpa using ihx s h)
  ·rename_i he;rw[he]at hc;exact wp_cond (mR hc) (by simpa using ihy s h)
  ·rename_i b he;rw[he]at hc;obtain⟨h1,h2⟩:=h.elim;exact wp_cond_split (Ej hc rfl) (fun hb=>ihx s (h1 hb)) (fun hb=>ihy s (h2 hb))
  ·exact h.elim
 |block id c ih=>
  intro σ a w ι E Q s h;refine wp_block (wp_mono (ih s h) ?_)
  rintro e a' w' ⟨σ',ι',E',k,s',x'⟩
  cases e with
  |normal=>exact⟨σ',ι',E',k,s',x'⟩
  |exit i=>
   simp only at k;simp only[Exit.inBlock];split at k
   ·rename_i hb;rw[aH (aY hb)];exact⟨σ',ι',E',k,s',x'⟩
   ·rename_i hb;rw[aF (fun e=>by subst e;rw[qQ]at hb;cases hb)];exact⟨σ',ι',E',k,s',x'⟩
  |goto l=>exact⟨σ',ι',E',k,s',x'⟩
  |ret=>exact⟨σ',ι',E',k,s',x'⟩
  |panic ch=>exact⟨σ',ι',E',k,s',x'⟩
  |outgrown=>exact⟨σ',ι',E',k,s',x'⟩
 |loop c ih=>
  intro σ a w ι E Q s h;obtain⟨n,hn⟩:=h.out;have base:∀{σ:St} {a:Act} {w:World} {ι:Inj} {E:Nat->Prop},Sim P N ι E σ a w->Lp0 Γ.np (qR P Γ c) σ Q->Py P c (aKg P N Γ.np ι E σ w Q) a w:=by
   intro σ a w ι E s h;obtain⟨G,S,Inv,μ,⟨g,hg,hle⟩,hround⟩:=h.elim;obtain⟨ι0,s0,x0⟩:=hle.sim s;refine Ro (fun m a' w'=>∃g ι' E',μ g=m/\Inv g/\Sim P N ι' E' (S g) a' w'/\Ex Γ.np ι σ.h E w ι' (S g).h E' w') ?_ (μ g) a w ⟨g,ι0,E,rfl,hg,s0,x0⟩
   rintro m a' w' ⟨g',ι',E',rfl,hg',s',x'⟩
   refine wp_mono (ih s' (hround g' hg')) ?_
   rintro e a2 w2 ⟨σ2,ι2,E2,k2,s2,x2⟩
   cases e with
   |normal=>
    obtain⟨g2,hg2,hlt,hle2⟩:=k2;obtain⟨ι3,s3,x3⟩:=hle2.sim s2;exact⟨μ g2,hlt,g2,ι3,E2,rfl,hg2,s3,(x'.trans x2).trans x3⟩
   |exit i=>exact⟨σ2,ι2,E2,k2,s2,x'.trans x2⟩
   |goto l=>exact⟨σ2,ι2,E2,k2,s2,x'.trans x2⟩
   |ret=>exact⟨σ2,ι2,E2,k2,s2,x'.trans x2⟩
   |panic ch=>exact⟨σ2,ι2,E2,k2,s2,x'.trans x2⟩
   |outgrown=>exact⟨σ2,ι2,E2,k2,s2,x'.trans x2⟩
  refine Uh ?_;clear h
  induction n generalizing σ a w ι E with
  |zero=>exact base s hn
  |succ n ihn=>
   rcases hn with hn|hn
   ·exact base s hn
   refine Gz (wp_mono (ih s hn) ?_)
   rintro e a2 w2 ⟨σ2,ι2,E2,k2,s2,x2⟩
   cases e with
   |normal=>
    intro b k cs;obtain⟨e,a',w',hq,harr⟩:=ihn s2 k2.out b k cs;refine⟨e,a',w',?_,harr⟩;obtain⟨σ3,ι3,E3,k3,s3,x3⟩:=hq;exact⟨σ3,ι3,E3,k3,s3,x2.trans x3⟩
   |exit i=>exact⟨σ2,ι2,E2,k2,s2,x2⟩
   |goto l=>exact⟨σ2,ι2,E2,k2,s2,x2⟩
   |ret=>exact⟨σ2,ι2,E2,k2,s2,x2⟩
   |panic ch=>exact⟨σ2,ι2,E2,k2,s2,x2⟩
   |outgrown=>exact⟨σ2,ι2,E2,k2,s2,x2⟩
 |exit id=>intro σ a w ι E Q s h;exact wp_exit ⟨σ,ι,E,h,s,Ext.refl.ex⟩
 |ret=>intro σ a w ι E Q s h;exact wp_ret ⟨σ,ι,E,h,s,Ext.refl.ex⟩
 |label l=>intro σ a w ι E Q s h;exact wp_label ⟨σ,ι,E,h,s,Ext.refl.ex⟩
 |rangeFunc=>intro σ a w ι E Q s h;exact h.elim
 |scope=>intro σ a w ι E Q s h;exact h.elim
 |goto=>intro σ a w ι E Q s h;exact h.elim
 |refuse=>intro σ a w ι E Q s h;exact h.elim
end
section
variable {P:Program} {E:Nat->Prop} {w:World} {ι:Inj} {N:Nat} {σ:St} {a:Act}
def aJH(tmps:Array Value):ResultVar->Sem Value
 |.tmp t=>pure (tmps.getD t undef)
 |.cell a t=>do loadVar t (<-asAddr (tmps.getD a undef))
theorem Y6{t:TypeId}{a v:Value}{w':World}(h:(Instr.loadAt t a).run P w=.ok v w'):(do loadVar t (<-asAddr a):Sem Value).run P w=.ok v w':=by
 cases a with
 |pointer p=>
  cases p with
  |some q=>simpa[Instr.loadAt,Instr.sureAddr,asAddr]using h
  |none=>simp[Instr.loadAt,Instr.sureAddr,stuck]at h
 |_=>simp[Instr.loadAt,Instr.sureAddr,stuck]at h
theorem zO(s:Sim P N ι E σ a w):∀{rs:List ResultVar} {K:List AV->Prop},Pd P σ rs K->∃vs xs,(rs.mapM (aJH a.tmps)).run P w=.ok vs w/\RL E w ι xs vs.toArray/\K xs
 |[],K,h=>⟨[],[],by simp,oZ,h⟩
 |.tmp t::r,K,h=>by
  simp only[Pd]at h;split at h;case h_2=>exact h.elim
  rename_i x hb hx;obtain⟨v,h1,h2⟩:=s.slots t x (fun e=>by rw[e,qQ]at hb;cases hb) hx;obtain⟨vs,xs,g1,g2,g3⟩:=zO s h;refine⟨v::vs,x::xs,?_,?_,g3⟩
  ·simp[List.mapM_cons,aJH,h1,g1]
  ·have:=RL.cons h2 g2;simpa using this
 |.cell c t::r,K,h=>by
  simp only[Pd]at h;split at h;case h_2=>exact h.elim
  rename_i x hb hx;obtain⟨v,h1,h2⟩:=s.slots c x (fun e=>by rw[e,qQ]at hb;cases hb) hx;obtain⟨qb,qh,⟨u,y,q1,q2,q3⟩,_⟩:=Ud s.rep h2 h;obtain⟨vs,xs,g1,g2,g3⟩:=zO s q3;have q1':=Y6 (q1 w rfl);refine⟨u::vs,y::xs,?_,?_,g3⟩
  ·simp only[List.mapM_cons,aJH,show a.tmps.getD c undef=v by simp[h1],Sem.run_bind,q1',Result.andThen_ok,g1,Sem.run_pure]
  ·have:=RL.cons q2 g2;simpa using this
theorem Sf{fn:Func}(s:Sim P N ι E σ a w){K:List AV->Prop}(h:Pd P σ fn.results.toList K):∃v xs,(results fn a.tmps).run P w=.ok v w/\Rel E w ι (D9 xs) v/\K xs:=by
 obtain⟨vs,xs,h1,h2,h3⟩:=zO s h;have hr:(results fn a.tmps).run P w=.ok (if h:vs.toArray.size=1 then vs.toArray[0]else .tuple vs.toArray) w:=by
  have e:results fn a.tmps=(do
    let vs<-fn.results.mapM (aJH a.tmps)
    pure (if h:vs.size=1 then vs[0]else .tuple vs):Sem Value):=by
   unfold results
   congr 2
  rw[e,Array.mapM_eq_mapM_toList];simp[h1]
 refine⟨_,xs,hr,?_,h3⟩;have hl:xs.length=vs.length:=h2.1;cases vs with
 |nil=>
  cases xs with
  |nil=>exact .tup _ _ h2.1 h2.2
  |cons x xs=>simp at hl
 |cons v vs=>
  cases xs with
  |nil=>simp at hl
  |cons x xs=>
   cases vs with
   |nil=>
    cases xs with
    |nil=>
     have:=h2.2 0 x v zx zx;simpa[D9]using this
    |cons x' xs=>simp at hl
   |cons v' vs=>
    cases xs with
    |nil=>simp at hl
    |cons x' xs=>
     simp only[List.size_toArray,aB,D9];rw[dif_neg zo];exact .tup _ _ h2.1 h2.2
theorem Tx{n:Nat}{h:Hp}(r:Rep ι E w n h){x:AV}{v:Value}{K:AV->Prop}(hx:Rel E w ι x v)(hq:aMy h x K):∃y,Rel (Db ι h (fun i=>i∈wT x) E) w ι y v/\K y:=by
 cases x with
 |tup vs=>
  cases hx with
  |tup _ c hs hc=>
   obtain⟨ys,g1,g2,g3⟩:=wE r (S:=fun i=>i∈oY vs) ⟨hs,hc⟩ (fun _ h=>h) hq;exact⟨.tup ys,.tup _ _ g1.1 g1.2,g2⟩
 |_=>
  obtain⟨y,g1,g2,g3⟩:=yW r (S:=fun i=>i∈tD _) hx (fun _ h=>h) hq;exact⟨y,g1,g2⟩
theorem Rel.norefT{x:AV}{v:Value}{ι':Inj}(hx:Rel E w ι x v)(hn:x.norefT=true):Rel E w ι' x v:=by
 cases x with
 |tup vs=>
  cases hx with
  |tup _ c hs hc=>
   have:=RL.noref (ι':=ι') ⟨hs,hc⟩ hn;exact .tup _ _ this.1 this.2
 |_=>exact hx.noref hn
theorem pR:∀(p i:Nat),(upTo p)[i]? =if i<p then some i else none
 |0,i=>by simp[upTo]
 |k+1,i=>by
  have hl:(upTo k).length=k:=by
   have:∀k,(upTo k).length=k:=by
    intro k;induction k with
    |zero=>rfl
    |succ k ih=>simp[upTo,ih]
   exact this k
  simp only[upTo];rw[List.getElem?_append,hl,pR k];by_cases h1:i<k
  ·simp[h1,show i<k+1 by omega]
  ·by_cases h2:i=k
   ·subst h2;simp
   ·rw[aF h1,aF zo,bS (by simp;omega)]
theorem rB(p:Nat):(upTo p).length=p:=by
 induction p with
 |zero=>rfl
 |succ k ih=>simp[upTo,ih]
theorem nE:∀(p:Nat),(upTo p).Nodup/\∀i,i∈upTo p->i<p
 |0=>by simp[upTo]
 |k+1=>by
  obtain⟨h1,h2⟩:=nE k;refine⟨?_,fun i hi=>?_⟩
  ·simp only[upTo];rw[eQ];refine⟨h1,by simp,fun a ha b hb=>?_⟩;simp at hb;subst hb;have:=h2 a ha;omega
  ·simp only[upTo,aX,aU]at hi;rcases hi with hi|hi
   ·have:=h2 i hi;omega
   ·omega
theorem xM{p:Nat}{ι0:Inj}{h0:Hp}{E0:Nat->Prop}{w0:World}{h:Hp}{n:Nat}(r:Rep ι E w n h)(hf:∀id,p<=id->ι0 id=none)(x:Ex p ι0 h0 E0 w0 ι h E w){ids:List Nat}{objs:List Obj}
  (hi:∀i,i<p->ids[i]? =some i)(hnd:ids.Nodup)(hl:ids.length=objs.length)(ho:∀(j:Nat) id o,ids[j]? =some id->objs[j]? =some o->gone o=false->get h id=some o):
  Rep (jQ ι ids) E w (objs.map (tP (inN ids))).length (jF 0 (objs.map (tP (inN ids))))/\Ext ι0 h0 E0 w0 (jQ ι ids) (jF 0 (objs.map (tP (inN ids)))) E w:=by
 have r0:=Ij r hnd hl ho;refine⟨r0,x.os,x.tape,x.output,x.size,fun id q hq=>?_,x.old,fun b hb hown=>?_,x.some,x.mark,x.drawn⟩
 ·have hid:id<p:=by
   rcases aD id p with h|h
   ·exact h
   ·rw[hf id h]at hq;cases hq
  simp only[jQ,hi id hid];exact x.inj id q hid hq
 ·refine x.own b hb ?_;obtain⟨id,o,base,g1,g2⟩:=hown;rw[oP]at g1;simp only[aK,true_and,eV,bX,bW]at g1;obtain⟨⟨o0,g1,rfl⟩,hgn⟩:=g1;rw[sL]at hgn;cases hq:ids[id]? with
  |none=>simp[jQ,hq]at g2
  |some q=>
   simp only[jQ,hq]at g2;exact⟨q,o0,base,ho _ _ _ hq g1 hgn,g2⟩
theorem yU{p:Nat}{ι0:Inj}{h0:Hp}{E0:Nat->Prop}{w0:World}{h:Hp}{n:Nat}(r:Rep ι E w n h)(hf:∀id,p<=id->ι0 id=none)(ex:Ex p ι0 h0 E0 w0 ι h E w){x:AV}{v:Value}{K:AV->List Obj->Prop}(hx:Rel E w ι x v)(hq:aBC p h x K):
  ∃r hs' ι' E',K r hs'/\Rep ι' E' w hs'.length (jF 0 hs')/\Rel E' w ι' r v/\Ext ι0 h0 E0 w0 ι' (jF 0 hs') E' w:=by
 have frozen:(aMy h x fun y=>match sO (dels h (wT x)) (upTo p)with
  |some hs=>(match y.norefT with
   |true=>rH (inN (upTo p)) hs fun hs=>K y hs
   |false=>False)
  |none=>False)->∃r hs' ι' E',K r hs'/\Rep ι' E' w hs'.length (jF 0 hs')/\Rel E' w ι' r v/\Ext ι0 h0 E0 w0 ι' (jF 0 hs') E' w:=by
  intro hq;obtain⟨y,g1,g2⟩:=Tx r hx hq;split at g2;case h_2=>exact g2.elim
  rename_i hs hhs;split at g2;case h_2=>exact g2.elim
  rename_i hb;rw[oQ]at g2;obtain⟨r1,x1⟩:=release r (fun id=>id∈wT x) (Sub.dels (wT x)) (fun id o hg hm=>by rw[pK,aH hm]at hg;cases hg);obtain⟨hl,hget⟩:=oB hhs;obtain⟨r2,x2⟩:=xM r1 hf (ex.trans x1.ex) (ids:=upTo p) (fun i hi=>by rw[pR,aH hi]) (nE p).1 hl (fun j id o h1 h2 _=>hget j id o h1 h2);exact⟨y,_,_,_,g2,r2,g1.norefT hb,x2⟩
 unfold aBC at hq;split at hq;case h_2=>exact frozen hq
 rename_i id off;split at hq;case h_2=>exact hq.elim
 rename_i hple;have hple:=cB hple;split at hq;case h_2=>exact hq.elim
 rename_i hs hhs;rw[oQ]at hq;obtain⟨hl,hget⟩:=oB hhs;have hnd:(upTo p++[id]).Nodup:=by
  rw[eQ];refine⟨(nE p).1,by simp,fun a ha b hb=>?_⟩;simp at hb;subst hb;have:=(nE p).2 a ha;omega
 obtain⟨r2,x2⟩:=xM r hf ex (ids:=upTo p++[id]) (fun i hi=>by rw[bJ (by rw[rB];exact hi),pR,aH hi]) hnd hl (fun j id o h1 h2 _=>hget j id o h1 h2);refine⟨_,_,_,_,hq,r2,?_,x2⟩;cases hx with
 |op _ _ b base hι=>exact .op p off b base (by simp[jQ,List.getElem?_append,rB,hι])
theorem tR:∀(r l:List Nat) (i:Nat),i<l.length->(addN l r)[i]? =l[i]?
 |[],l,i,_=>rfl
 |a::r,l,i,hi=>by
  simp only[addN];split
  ·exact tR r l i hi
  ·rw[tR r _ i (by simp;omega),bJ hi]
theorem W0{ids:List Nat}{id j:Nat}(h:inN ids id=some j):ids[j]? =some id:=by
 have:=(uU h).2;simpa using this
theorem I3{p:Nat}{ι0:Inj}{h0:Hp}{E0:Nat->Prop}{w0:World}{h:Hp}{n:Nat}(r:Rep ι E w n h)(hf:∀id,p<=id->ι0 id=none)(ex:Ex p ι0 h0 E0 w0 ι h E w){x:AV}{v:Value}{K:AV->List Obj->Prop}(hx:Rel E w ι x v)(hq:aFL p h x K):
  ∃r hs' ι' E',K r hs'/\Rep ι' E' w hs'.length (jF 0 hs')/\Rel E' w ι' r v/\Ext ι0 h0 E0 w0 ι' (jF 0 hs') E' w:=by
 unfold aFL at hq;rw[wC]at hq;split at hq;case h_2=>exact hq.elim
 rename_i hs hhs;rw[oQ,Oi]at hq;obtain⟨hl,hget⟩:=oB hhs;obtain⟨r2,x2⟩:=xM r hf ex (ids:=addN (upTo p) (wT x)) (fun i hi=>by rw[tR _ _ _ (by rw[rB];exact hi),pR,aH hi]) (oU _ _ (nE p).1) hl (fun j id o h1 h2 _=>hget j id o h1 h2);refine⟨_,_,_,_,hq,r2,Kf (fun id j q hj hι=>?_) hx,x2⟩;simp only[jQ,W0 hj];exact hι
theorem Ts{b:Bool}{p:Nat}{ι0:Inj}{h0:Hp}{E0:Nat->Prop}{w0:World}{h:Hp}{n:Nat}(r:Rep ι E w n h)(hf:∀id,p<=id->ι0 id=none)(ex:Ex p ι0 h0 E0 w0 ι h E w){x:AV}{v:Value}{K:AV->List Obj->Prop}(hx:Rel E w ι x v)(hq:aMw b p h x K):
  ∃r hs' ι' E',K r hs'/\Rep ι' E' w hs'.length (jF 0 hs')/\Rel E' w ι' r v/\Ext ι0 h0 E0 w0 ι' (jF 0 hs') E' w:=by
 unfold aMw at hq;split at hq;case h_1=>exact yU r hf ex hx hq
 split at hq;case h_2=>exact I3 r hf ex hx hq
 case h_3=>exact I3 r hf ex hx hq
 case h_4=>exact yU r hf ex hx hq
 rename_i id sz off len;unfold aTb at hq;have ren:∀{ids:List Nat} {j:Nat},ids[j]? =some id->Rel E w (jQ ι ids) (.os j sz off len) v:=by
  intro ids j hj;cases hx with
  |osz _ _ _ a=>exact .osz _ _ _ _
  |os _ _ _ _ b base cap hι hc hcell=>exact .os j sz off len b base cap (by simp only[jQ,hj];exact hι) hc hcell
 split at hq
 ·rename_i hple;have hple:=cB hple;split at hq;case h_2=>exact hq.elim
  rename_i hs hhs;rw[oQ]at hq;obtain⟨hl,hget⟩:=oB hhs;have hnd:(upTo p++[id]).Nodup:=by
   rw[eQ];refine⟨(nE p).1,by simp,fun a ha b hb=>?_⟩;simp at hb;subst hb;have:=(nE p).2 a ha;omega
  obtain⟨r2,x2⟩:=xM r hf ex (ids:=upTo p++[id]) (fun i hi=>by rw[bJ (by rw[rB];exact hi),pR,aH hi]) hnd hl (fun j id o h1 h2 _=>hget j id o h1 h2);exact⟨_,_,_,_,hq,r2,ren (by rw[bF (by rw[rB];exact aO _),rB,dH];rfl),x2⟩
 ·rename_i hple;have hlt:id<p:=by
   rcases aD id p with h|h
   ·exact h
   ·rw[Nat.ble_eq_true_of_le h]at hple;cases hple
  split at hq;case h_2=>exact hq.elim
  rename_i hs hhs;rw[oQ]at hq;obtain⟨hl,hget⟩:=oB hhs;obtain⟨r2,x2⟩:=xM r hf ex (ids:=upTo p) (fun i hi=>by rw[pR,aH hi]) (nE p).1 hl (fun j id o h1 h2 _=>hget j id o h1 h2);exact⟨_,_,_,_,hq,r2,ren (by rw[pR,aH hlt]),x2⟩
theorem Mj(h:Hp):∀l:List Nat,l.length=(J2 h l).length
 |[]=>rfl
 |i::l=>by simp[J2,Mj h l]
theorem Mi(h:Hp):∀(l:List Nat) (j id:Nat) (o:Obj),l[j]? =some id->(J2 h l)[j]? =some o->gone o=false->get h id=some o
 |[],j,id,o,h1,_,_=>by simp at h1
 |i::l,0,id,o,h1,h2,h3=>by
  simp at h1;subst h1;simp only[J2,eI,bN]at h2;split at h2
  ·subst h2;assumption
  ·subst h2;cases h3
 |i::l,j+1,id,o,h1,h2,h3=>Mi h l j id o (by simpa using h1) (by simpa[J2]using h2) h3
theorem Qs{p:Nat}{ι0:Inj}{h0:Hp}{E0:Nat->Prop}{w0:World}{h:Hp}{n:Nat}(r:Rep ι E w n h)(hf:∀id,p<=id->ι0 id=none)(ex:Ex p ι0 h0 E0 w0 ι h E w){x:AV}{v:Value}{K:AV->List Obj->Prop}(hx:Rel E w ι x v)(hq:aBB p h x K):
  ∃r hs' ι' E',K r hs'/\Rep ι' E' w hs'.length (jF 0 hs')/\Rel E' w ι' r v/\Ext ι0 h0 E0 w0 ι' (jF 0 hs') E' w:=by
 unfold aBB at hq;rw[wC,oQ,Oi]at hq;have hlen:p<=(addN (upTo p) (qL h (upTo p))).length:=by
  rcases aD (addN (upTo p) (qL h (upTo p))).length p with hlt|hge
  ·exfalso;have h1:=tR (qL h (upTo p)) (upTo p) (addN (upTo p) (qL h (upTo p))).length (by rw[rB];exact hlt);rw[bS (aO _),pR,aH hlt]at h1;cases h1
  ·exact hge
 obtain⟨r2,x2⟩:=xM r hf ex (ids:=addN (addN (upTo p) (qL h (upTo p))) (wT x++qL h (wT x))) (fun i hi=>by rw[tR _ _ _ zo,tR _ _ _ (by rw[rB];exact hi),pR,aH hi]) (oU _ _ (oU _ _ (nE p).1)) (Mj h _) (Mi h _);refine⟨_,_,_,_,hq,r2,Kf (fun id j q hj hι=>?_) hx,x2⟩;simp only[jQ,W0 hj];exact hι
theorem Tu{o b:Bool}{p:Nat}{ι0:Inj}{h0:Hp}{E0:Nat->Prop}{w0:World}{h:Hp}{n:Nat}(r:Rep ι E w n h)(hf:∀id,p<=id->ι0 id=none)(ex:Ex p ι0 h0 E0 w0 ι h E w){x:AV}{v:Value}{K:AV->List Obj->Prop}(hx:Rel E w ι x v)(hq:Tt o b p h x K):
  ∃r hs' ι' E',K r hs'/\Rep ι' E' w hs'.length (jF 0 hs')/\Rel E' w ι' r v/\Ext ι0 h0 E0 w0 ι' (jF 0 hs') E' w:=by
 unfold Tt at hq;split at hq
 ·exact Qs r hf ex hx hq
 ·exact Ts r hf ex hx hq
theorem wG:∀(args:List AV) (k t:Nat),get (slotsOf k args) t=if k<=t then args[t-k]? else none
 |[],k,t=>by simp[slotsOf,get]
 |x::xs,k,t=>by
  simp only[slotsOf,jA,wG xs (k+1) t];by_cases h1:k=t
  ·subst h1;simp
  ·rw[aF h1];by_cases h2:k<=t
   ·rw[aH h2,aH zo,show t-k=(t-(k+1))+1 by omega,List.getElem?_cons_succ]
   ·rw[aF h2,aF zo]
/-! ### what is put off to the end -/
theorem Es{fr:Frame}{cs:List Frame}{w w2:World}{b:Builtin}{aT:Array TypeId}{ty:TypeId}{k:Array Bool}{as:Array Value}{u:Value}(hm:fr.mode=.returning)(hd:fr.defers=[⟨.builtin b aT ty k,as⟩])
  (hi:(invoke (.builtin b aT ty k) as).run P w=.ok (.value u) w2):step P (lone fr cs w)=.next (lone {fr with defers:=[]} cs w2):=
 step_lone_go (by simp[stepG,unwind,callDeferred,hm,hd,hi])
def Li(P:Program)(fn:Func)(R:Ending->World->Prop):Exit->Act->World->Prop
 |.normal,a,w|.ret,a,w=>(a.defers=[]/\∃v,(results fn a.tmps).run P w=.ok v w/\R (.returned v) w)\/
  ∃b aT ty k as u w2,a.defers=[⟨.builtin b aT ty k,as⟩]/\(invoke (.builtin b aT ty k) as).run P w=.ok (.value u) w2/\∃v,(results fn a.tmps).run P w2=.ok v w2/\R (.returned v) w2
 |_,_,_=>False
theorem Kq{f:FuncId}{fn:Func}{c:Code}{args:Array Value}{w:World}{R:Ending->World->Prop}(hf:P.funcs[f]? =some fn)(hb:fn.body=some c)
  (h:c.wp P (Li P fn R) {tmps:=args++Array.replicate (fn.ntmps-args.size) undef,defers:=[]} w):Calls P f args w R:=by
 intro cs
 let b:Frame:={(default:Frame)with fn:=f,kind:=.normal}
 have henter:Frame.enter P f args .normal=b.at {tmps:=args++Array.replicate (fn.ntmps-args.size) undef,defers:=[]} [.code c]:=by
  simp[Frame.enter,Frame.at,hf,hb,b]
 obtain⟨e,a',w',hq,harr⟩:=h b [] cs;rw[<-henter]at harr;cases e with
 |normal=>
  rcases hq with⟨hd,v,hr,hR⟩|⟨bb,aT,ty,k,as,u,w2,hd,hi,v,hr,hR⟩
  ·exact⟨.returned v,w',_,hR,Steps.trans harr (.one step_end),rfl,rfl,hd,rfl,fn,hf,hr⟩
  ·exact⟨.returned v,w2,_,hR,Steps.trans harr (Steps.trans (.one step_end) (.one (Es rfl hd hi))),rfl,rfl,rfl,rfl,fn,hf,hr⟩
 |ret=>
  obtain⟨todo,hs⟩:=harr;rcases hq with⟨hd,v,hr,hR⟩|⟨bb,aT,ty,k,as,u,w2,hd,hi,v,hr,hR⟩
  ·exact⟨.returned v,w',_,hR,hs,rfl,rfl,hd,rfl,fn,hf,hr⟩
  ·exact⟨.returned v,w2,_,hR,Steps.trans hs (.one (Es rfl hd hi)),rfl,rfl,rfl,rfl,fn,hf,hr⟩
 |_=>exact hq.elim
theorem ACall.of_code{Γ:Ctx}{f:FuncId}{fn:Func}{c:Code}{args:List AV}{hs:List Obj}{K:AV->List Obj->Prop}(hf:P.funcs[f]? =some fn)(hb:fn.body=some c)(hm:P.follows .mixedOrders=true)
  (hok:K0 P f=true)(hN:Γ.N=fn.ntmps)(hp:Γ.np=hs.length)(ha:Nat.ble args.length fn.ntmps=true)
  (hq:W2 hs args fun σ=>qR P Γ c σ (aRe P Γ fn.results.toList K)):ACall P f args hs K:=by
 unfold W2 at hq;rw[mK,mZ,Wk]at hq;have hcap:fn.ntmps<=DS:=by
  have hk:=hok;unfold K0 at hk;rw[hf]at hk;simp only[aJ]at hk;exact cB hk.1
 refine ACall.intro hok fun ι E w vals r hv=>?_;have ha:=cB ha;refine Kq hf hb ?_;have s0:Sim P fn.ntmps ι E ⟨hs.length,jF 0 hs,slotsOf 0 args⟩ {tmps:=vals++Array.replicate (fn.ntmps-vals.size) undef,defers:=[]} w:=by
  refine⟨r,fun t x _ hg=>?_,by simp[<-hv.1];omega,hcap,by rw[wG,aH (aK _),bS (by rw[eV];exact bC ha hcap)];rfl⟩;simp only[wG,aK,if_true,eV]at hg;have ht:t<args.length:=by
   rcases aD t args.length with h|h
   ·exact h
   ·rw[bS h]at hg;cases hg
  have ht':t<vals.size:=by rw[<-hv.1];exact ht
  refine⟨vals[t],by rw[eM ht'];simp[ht'],hv.2 t x _ hg (by simp[ht'])⟩
 have hstart:∀id,Γ.np<=id->ι id=none:=fun id hid=>r.fresh id (by rw[<-hp];exact hid);have res:∀{σ':St} {ι':Inj} {E':Nat->Prop} {a':Act} {w':World},Sim P fn.ntmps ι' E' σ' a' w'->Ex Γ.np ι (jF 0 hs) E w ι' σ'.h E' w'->(Pd P σ' fn.results.toList fun xs=>Tt Γ.out Γ.res Γ.np σ'.h (D9 xs) K)->
   ∃v,(results fn a'.tmps).run P w'=.ok v w'/\∃v' rr hs' ι' E',Ending.returned v=.returned v'/\K rr hs'/\Rep ι' E' w' hs'.length (jF 0 hs')/\Rel E' w' ι' rr v'/\Ext ι (jF 0 hs) E w ι' (jF 0 hs') E' w':=by
  intro σ' ι' E' a' w' s' x' hr;obtain⟨v,xs,g1,g2,g3⟩:=Sf s' hr;obtain⟨rr,hs',ι2,E2,k1,k2,k3,k4⟩:=Tu s'.rep hstart x' g2 g3;exact⟨v,g1,v,rr,hs',ι2,E2,rfl,k1,k2,k3,k4⟩
 have fin:∀{σ':St} {ι':Inj} {E':Nat->Prop} {a':Act} {w':World},Sim P fn.ntmps ι' E' σ' a' w'->Ex Γ.np ι (jF 0 hs) E w ι' σ'.h E' w'->aFK P Γ fn.results.toList K σ'->Li P fn (fun e w'=>∃v r hs' ι' E',e=.returned v/\K r hs'/\Rep ι' E' w' hs'.length (jF 0 hs')/\Rel E' w' ι' r v/\Ext ι (jF 0 hs) E w ι' (jF 0 hs') E' w') .ret a' w':=by
  intro σ' ι' E' a' w' s' x' hr;have hd:=s'.defers;unfold aFK at hr;split at hr
  ·rename_i hg;rw[hg]at hd;exact .inl ⟨hd,res s' x' hr⟩
  ·rename_i id str hg;rw[hg]at hd;obtain⟨b,base,aT,ty,cs,t,e,k1,k2,k3,k4⟩:=hd;split at hr;case h_2=>exact hr.elim
   rename_i f' hgm;have hr:=hr.elim;rw[mZ]at hr;obtain⟨x,v,w2,ι2,E2,n2,h2,hrun,⟨rfl,rfl,rfl⟩,_,hrep,hext⟩:=Dk (K:=fun x n2 h2=>x=.tup []/\n2=σ'.n/\h2=set σ'.h id (.map (Iz f' (.string str)))) (ty:=ty) s'.rep k3 k4 (Rel.mp id b base k1) hgm ⟨rfl,rfl,rfl⟩;have hrun2:(invoke (.builtin .delete aT ty cs) #[.map (some b),.string str]).run P w'=.ok (.value v) w2:=by
    rcases hrun with hrun|⟨hrun,_⟩
    ·simpa[invoke,builtin]using hrun
    ·exfalso;cases hq:(Builtin.delete_ aT ty #[.map (some b),.string str]).run P w' with
     |ok=>simp[hq,Result.andThen]at hrun
     |halt=>simp[hq,Result.andThen]at hrun
   exact .inr ⟨_,_,_,_,_,v,w2,k2,hrun2,res (s'.keep hrep hext) (x'.trans hext.ex) hr⟩
  ·exact hr.elim
 refine wp_mono (Qm hN hm c s0 hq) ?_
 rintro e a' w' ⟨σ',ι',E',k,s',x'⟩
 cases e with
 |normal=>exact fin s' x' k
 |ret=>exact fin s' x' k
 |_=>exact k.elim
end
theorem Lp.intro{p:Nat}{body:St->(Exit->St->Prop)->Prop}{σ:St}{Q:Exit->St->Prop}(G:Type)(S:G->St)(Inv:G->Prop)(μ:G->Nat)(g:G)(h0:Inv g)(hle:Le p (S g) σ)
  (round:∀g,Inv g->body (S g) fun e σ'=>match e with
   |.normal=>∃g',Inv g'/\μ g'<μ g/\Le p (S g') σ'
   |e=>Q e σ'):Lp p body σ Q:=⟨0,⟨G,S,Inv,μ,⟨g,h0,hle⟩,round⟩⟩
abbrev gV:=@Lp.intro
theorem Lp.times{p:Nat}{body:St->(Exit->St->Prop)->Prop}{σ:St}{Q:Exit->St->Prop}(n:Nat)(h:Stp (LpN p body Q n σ)):Lp p body σ Q:=⟨n,h.out⟩
theorem Stp.go{p:Nat}{body:St->(Exit->St->Prop)->Prop}{σ:St}{Q:Exit->St->Prop}{n:Nat}(h:body σ fun e σ'=>match e with
   |.normal=>Stp (LpN p body Q n σ')
   |e=>Q e σ'):Stp (LpN p body Q (n+1) σ):=⟨.inr h⟩
theorem Stp.intro{p:Nat}{body:St->(Exit->St->Prop)->Prop}{σ:St}{Q:Exit->St->Prop}{n:Nat}(G:Type)(S:G->St)(Inv:G->Prop)(μ:G->Nat)(g:G)(h0:Inv g)(hle:Le p (S g) σ)
  (round:∀g,Inv g->body (S g) fun e σ'=>match e with
   |.normal=>∃g',Inv g'/\μ g'<μ g/\Le p (S g') σ'
   |e=>Q e σ'):Stp (LpN p body Q n σ):=by
 have h:Lp0 p body σ Q:=⟨G,S,Inv,μ,⟨g,h0,hle⟩,round⟩
 cases n with
 |zero=>exact⟨h⟩
 |succ n=>exact⟨.inl h⟩
theorem Jn.intro{p:Nat}{body:(St->Prop)->Prop}{K:St->Prop}(G:Type)(S:G->St)(Inv:G->Prop)(h1:body (fun σ'=>∃g,Inv g/\Le p (S g) σ'))(h2:∀g,Inv g->K (S g)):Jn p body K:=⟨G,S,Inv,h1,h2⟩
abbrev iD:=@Jn.intro
theorem Jn.at{p:Nat}{body:(St->Prop)->Prop}{K:St->Prop}(s:St)(h1:body (fun σ'=>∃_:Unit,True/\Le p s σ'))(h2:K s):Jn p body K:=⟨Unit,fun _=>s,fun _=>True,h1,fun _ _=>h2⟩
theorem aRH{b:Bool}{T F:Prop}(h:b=true)(h1:T):Br b T F:=Br.intro (fun _=>h1) (fun h'=>by rw[h]at h';cases h')
theorem aRG{b:Bool}{T F:Prop}(h:b=false)(h1:F):Br b T F:=Br.intro (fun h'=>by rw[h]at h';cases h') (fun _=>h1)
theorem aWl{b:Bool}{T F:Prop}(h1:b=true->T)(h2:b=false->F):Br b T F:=Br.intro h1 h2
theorem sG{p:Prop}{d:Decidable p}{T F:Prop}(h1:p->T)(h2:¬p->F):Br (@decide p d) T F:=Br.intro (fun h=>h1 (of_decide_eq_true h)) (fun h=>h2 (of_decide_eq_false h))
theorem aLg{b:Bool}{T F:Prop}(h:Br b F T):Br (!b) T F:=by
 obtain⟨h1,h2⟩:=h.elim;cases b
 ·exact Br.intro (fun _=>h2 rfl) (fun h=>by cases h)
 ·exact Br.intro (fun h=>by cases h) (fun _=>h1 rfl)
theorem aLh{p:Prop}{d:Decidable p}{T F:Prop}(h:p)(h1:T):Br (@decide p d) T F:=sG (fun _=>h1) (fun hn=>absurd h hn)
theorem aAw{p:Prop}{d:Decidable p}{T F:Prop}(h:¬p)(h1:F):Br (@decide p d) T F:=sG (fun hp=>absurd hp h) (fun _=>h1)
theorem aOC{j len:Nat}{K:Nat->Prop}(h:j<len)(hk:K j):In (j:Int) len K:=iB j rfl h hk
abbrev iJ:=@aOC
theorem aOB{α:Type}{f:α->AV}{l:List α}{j:Nat}{K:Nat->Prop}(h:j<l.length)(hk:K j):In (j:Int) (l.map f).length K:=iB j rfl (by simpa using h) hk
abbrev iI:=@aOB
theorem aCC{α:Type}{f:α->AV}{l:List α}{i:Nat}{K:AV->Prop}{r:α}(h:l[i]? =some r)(hk:K (f r)):Ix (l.map f) i K:=iC (by simp[h]) hk
abbrev iH:=@aCC
theorem nY{α:Type}{f:α->AV}{l:List α}{i:Nat}{K:AV->Prop}(hi:i<l.length)(hk:∀r,l[i]? =some r->K (f r)):Ix (l.map f) i K:=iH (aE hi) (hk _ (aE hi))
theorem iT{xs:List AV}{len:Nat}{K:List AV->Prop}(h:xs.length=len)(hk:K xs):Sl xs 0 len K:=
 iE zo (by rw[bP,<-h,dF]) hk
theorem mQ{α:Type}{f:α->AV}{l:List α}{off len:Nat}{K:List AV->Prop}(h:off+len<=l.length)(hk:K (((l.drop off).take len).map f)):Sl (l.map f) off len K:=
 iE (by simpa using h) (by rw[List.map_take,List.map_drop]) hk
theorem jO{e r:Int}{K:Int->Prop}(h0:e=r)(h1: -9223372036854775808<=r)(h2:r<=9223372036854775807)(hk:K r):Wr .i64 e K:=by
 subst h0;refine Wr.intro ?_ hk;simp only[IntKind.wrap,IntKind.signed,IntKind.bits];simp;omega
theorem xG{e r:Int}{K:Int->Prop}(h0:e=r)(h1:0<=r)(h2:r<=18446744073709551615)(hk:K r):Wr .u64 e K:=by
 subst h0;refine Wr.intro ?_ hk;simp only[IntKind.wrap,IntKind.signed,IntKind.bits];simp;omega
theorem zZ{e:Int}{K:Int->Prop}(h:∀r,0<=r->r<=18446744073709551615->K r):Wr .u64 e K:=by
 refine Wr.intro rfl (h _ ?_ ?_)
 ·simp only[IntKind.wrap,IntKind.signed,IntKind.bits];simp;omega
 ·simp only[IntKind.wrap,IntKind.signed,IntKind.bits];simp;omega
theorem jD{e:Int}{K:Int->Prop}(h:∀r,0<=r->r<=4294967295->K r):Wr .u32 e K:=by
 refine Wr.intro rfl (h _ ?_ ?_)
 ·simp only[IntKind.wrap,IntKind.signed,IntKind.bits];simp;omega
 ·simp only[IntKind.wrap,IntKind.signed,IntKind.bits];simp;omega
theorem xE{k:IntKind}{e:Int}{K:Int->Prop}(h:∀r,K r):Wr k e K:=Wr.intro rfl (h _)
theorem xF{e r:Int}{K:Int->Prop}(h0:e=r)(h1:0<=r)(h2:r<=4294967295)(hk:K r):Wr .u32 e K:=by
 subst h0;refine Wr.intro ?_ hk;simp only[IntKind.wrap,IntKind.signed,IntKind.bits];simp;omega
def Weak(x y:AV):Prop:=∀(E:Nat->Prop) (w:World) (ι:Inj) (v:Value),Rel E w ι x v->Rel E w ι y v
theorem Weak.refl{x:AV}:Weak x x:=fun _ _ _ _ h=>h
abbrev gY:=@Weak.refl
theorem Weak.bool{b:Bool}:Weak (.v (.bool b)) (.sb b):=fun _ _ _ v h=>by cases h;exact .sb b
theorem Weak.nils:Weak .nils (.lst []):=fun _ _ _ v h=>by cases h;exact .lnil none 0
abbrev hZ:=@Weak.nils
theorem Weak.tup2{a b a' b':AV}(h1:Weak a a')(h2:Weak b b'):Weak (.tup [a,b]) (.tup [a',b']):=fun E w ι v h=>by
 cases h with
 |tup _ c hs h=>
  refine .tup _ _ hs (fun i x y hx hy=>?_)
  match i with
  |0=>simp at hx;subst hx;exact h1 _ _ _ _ (h 0 a y rfl hy)
  |1=>simp at hx;subst hx;exact h2 _ _ _ _ (h 1 b y rfl hy)
  |n+2=>simp at hx
abbrev hU:=@Weak.tup2
theorem ACall.weak{P:Program}{f:FuncId}{args:List AV}{hs:List Obj}{K:AV->List Obj->Prop}(h:ACall P f args hs fun r hs'=>∃y,Weak r y/\K y hs'):ACall P f args hs K:=by
 obtain⟨h1,h2⟩:=h.elim;refine ACall.intro h1 fun ι E w vals r hv=>(h2 ι E w vals r hv).mono ?_
 rintro e w' ⟨v,rr,hs',ι',E',he,⟨y,hy,hk⟩,hr,hrel,hx⟩
 exact⟨v,y,hs',ι',E',he,hk,hr,hy _ _ _ _ hrel,hx⟩
abbrev hJ:=@ACall.weak
theorem ACall.bool{P:Program}{f:FuncId}{args:List AV}{hs:List Obj}{K:AV->List Obj->Prop}(h:ACall P f args hs fun r hs'=>(∃b,r=.v (.bool b)/\K (.sb b) hs')\/(∃b,r=.sb b/\K (.sb b) hs')):ACall P f args hs K:=
 hJ (h.mono fun r hs' hh=>by
  rcases hh with⟨b,rfl,h⟩|⟨b,rfl,h⟩
  ·exact⟨_,Weak.bool,h⟩
  ·exact⟨_,gY,h⟩)
abbrev gZ:=@ACall.bool
def WeakL:List AV->List AV->Prop
 |[],[]=>True
 |x::xs,y::ys=>Weak x y/\WeakL xs ys
 |_,_=>False
theorem WeakL.rel{E:Nat->Prop}{w:World}{ι:Inj}:∀{xs ys:List AV} {c:Array Value},WeakL xs ys->RL E w ι xs c->RL E w ι ys c
 |[],[],c,_,h=>h
 |x::xs,y::ys,c,hw,h=>by
  obtain⟨v,vs,rfl,h1,h2⟩:=h.head;exact RL.cons (hw.1 _ _ _ _ h1) (WeakL.rel hw.2 h2)
 |[],_::_,_,hw,_=>hw.elim
 |_::_,[],_,hw,_=>hw.elim
theorem ACall.args{P:Program}{f:FuncId}{xs ys:List AV}{hs:List Obj}{K:AV->List Obj->Prop}(hw:WeakL xs ys)(h:ACall P f ys hs K):ACall P f xs hs K:=by
 obtain⟨h1,h2⟩:=h.elim;exact ACall.intro h1 fun ι E w vals r hv=>h2 ι E w vals r (hw.rel hv)
/-! what an evaluation asks for is shown by the tactic that stands here -/
theorem gA{p:Prop}(h:p:=by(first|with_reducible exact aO _|with_reducible rfl|omega|(simp only[aC,aA,aV,cH,aB,aI,cL];done)|(simp only[aC,aA,aV,cH,aB,aI,cL];omega))):p:=h
theorem gB{p:Prop}(h:p:=by(first|with_reducible assumption|omega|(simp only[aC,aA,aV,cH,aB,aI,cL];omega))):p:=h
theorem gC{p:Prop}(h:p:=by first|(as_aux_lemma=>kernel_rfl)|((try simp only[List.forall_mem_append,List.forall_mem_map,fX,List.forall_mem_nil,and_true,true_and]);(repeat' apply And.intro)<;>first|(intros;rfl)|omega|(simp only[aC,aA,aV,cH,aB,aI,cL];omega)|(intro _ h;cases h))):p:=h
theorem brX{b:Bool}{T F X:Prop}(h:(b=true/\X=T)\/(b=false/\X=F))(k:X):Br b T F:=by
 rcases h with⟨h,e⟩|⟨h,e⟩
 ·exact aRH h (e▸k)
 ·exact aRG h (e▸k)
theorem gX{b:Bool}{T F X:Prop}(h:(b=true/\X=T)\/(b=false/\X=F):=by first|(with_reducible exact .inl ⟨rfl,rfl⟩)|(with_reducible exact .inr ⟨rfl,rfl⟩)|((with_reducible refine .inl ⟨decide_eq_true ?_,rfl⟩);exact gB)|((with_reducible refine .inr ⟨decide_eq_false ?_,rfl⟩);exact gB)|(with_reducible refine .inl ⟨?_,rfl⟩;assumption)|(with_reducible refine .inr ⟨?_,rfl⟩;assumption)):(b=true/\X=T)\/(b=false/\X=F):=h
abbrev wrB(k:IntKind)(e:Int):Prop:=match k with
 |.i64=> -9223372036854775808<=e/\e<=9223372036854775807
 |.u64=>0<=e/\e<=18446744073709551615
 |.u32=>0<=e/\e<=4294967295
 |_=>False
theorem wrX{k:IntKind}{e:Int}{K:Int->Prop}(h:wrB k e)(hk:K e):Wr k e K:=by
 cases k with
 |i64=>exact jO rfl h.1 h.2 hk
 |u64=>exact xG rfl h.1 h.2 hk
 |u32=>exact xF rfl h.1 h.2 hk
 |_=>exact h.elim
theorem gW{k:IntKind}{e:Int}(h:wrB k e:=by exact⟨gB,gB⟩):wrB k e:=h
theorem bdI{p:Prop}{d:Decidable p}{T F:Prop}(k:(p->T)/\(¬p->F)):Br (@decide p d) T F:=sG k.1 k.2
theorem bbI{b:Bool}{T F:Prop}(k:(b=true->T)/\(b=false->F)):Br b T F:=aWl k.1 k.2
abbrev zA:=@And.intro
abbrev zT:=True.intro
theorem zG{G X:Prop}(k:X)(h:X->G:=by first|(with_reducible refine fun k=>iT ?_ k;exact gA)|(with_reducible refine fun k=>brX ?_ k;exact gX)|(with_reducible exact bdI)|(with_reducible exact aLg)|(with_reducible exact bbI)|(with_reducible refine fun k=>wrX ?_ k;exact gW)|(with_reducible exact Stp.go)|(refine fun k=>Ob.intro ?_ k;exact gC)):G:=h k
abbrev KT:=AV->List Obj->Prop
theorem zk{α:Type}{a b:α}(h:a=b:=by kernel_rfl):a=b:=h
theorem gex{α:Type}{l:List α}{k:Nat}(h:k<l.length):∃x,l[k]? =some x:=⟨_,aE h⟩
def bdy(f:Func):Code:=match f.body with
 |some c=>c
 |none=>.skip
theorem ofC{P:Program}{Γ:Ctx}{f:FuncId}{fn:Func}{c:Code}(hf:P.funcs[f]? =some fn)(hb:fn.body=some c)(hm:P.follows .mixedOrders=true)(hok:K0 P f=true)(hN:Γ.N=fn.ntmps){args:List AV}{hs:List Obj}{K:KT}
  (hp:Nat.beq Γ.np hs.length=true)(ha:Nat.ble args.length Γ.N=true)(hq:W2 hs args fun σ=>qR P Γ c σ (aRe P Γ fn.results.toList K)):ACall P f args hs K:=ACall.of_code hf hb hm hok hN (aY hp) (hN▸ha) hq
open Go.RowKit
structure Stay (W w':World):Prop where
 kept:W.keptBut w' (fun _=>False)
 mark:∀a,a.block<W.heap.size->w'.frozen? a=W.frozen? a
 heap:∀b,b<W.heap.size->w'.heap[b]? =W.heap[b]?
theorem ACall.law{P:Program}{f:FuncId}{args:List AV}{vals:Array Value}{w:World}(h:ACall P f args [] fun r _=>r=.sb true\/r=.v (.bool true))(hg:GlobOk (fun _=>False) w)(hv:RL (fun _=>False) w jR args vals):
  Calls P f vals w fun e w'=>e=.returned (.bool true)/\Stay w w':=by
 obtain⟨_,h2⟩:=h.elim;have r:Rep jR (fun _=>False) w ([]:List Obj).length (jF 0 []):=⟨fun _ _=>rfl,fun id o hg=>by simp[jF,get]at hg,fun id id' o o' b base base' hg=>by simp[jF,get]at hg,fun b hb=>hb.elim,hg⟩
 refine(h2 jR _ w vals r hv).mono ?_
 rintro e w' ⟨v,rv,hs',ι',E',rfl,hk,_,hr,x⟩
 have hno:∀b,¬Own jR (jF 0 []) b:=fun b ⟨id,o,base,hg,_⟩=>by simp[jF,get]at hg
 refine⟨?_,?_,x.mark,fun b hb=>(x.old b hb (hno b)).1⟩
 ·rcases hk with rfl|rfl
  ·cases hr;rfl
  ·cases hr;rfl
 ·refine⟨x.os,x.output,fun i hi=>?_⟩;have e:=(x.old i hi (hno i)).1;rw[e];cases w.heap[i]? with
  |none=>rfl
  |some o=>
   cases o with
   |cells c t fr=>exact⟨rfl,rfl,rfl,fun _ _=>rfl⟩
   |map es cl=>exact .inr ⟨rfl,rfl⟩
   |_=>rfl
theorem Stay.sameAt{W w':World}(h:Stay W w'){p:MemPlace}(hp:p.block<W.heap.size):W.sameAt w' p:=by
 cases p with
 |cell b o=>exact cell_of_heap (a:=⟨b,o,none⟩) (h.heap b hp)
 |map b=>exact h.heap b hp
section
open Go.ChangeShapes Go.WideShapes
variable {H:Type} {enc:TypeId×Value->H} {P:Program}
def J8(P:Program)(ts:List TypeId):Bool:=ts.all fun t=>P.readableRec t&&decide (t<P.types.size)
theorem M4{W W':World}(hst:Stay W W')(hl:laidOutB P=true){sp:Nat->Bool}:∀{ts:List TypeId} {vs:List Value} {ds:List (DataW H)} {ps:List MemPlace},J8 P ts=true->
  DataW.TrodAll enc P W 0 (fun _=>true) true ts vs ds ps->(∀p∈ps,p.block<W.heap.size/\sp p.block=true)->DataW.TrodAll enc P W' 0 sp true ts vs ds ps
 |[],vs,ds,ps,_,h,_=>by
  match vs,ds,h with
  |[],[],h=>exact h
 |t::ts,vs,ds,ps,hp,h,hs=>by
  match vs,ds,h with
  |v::vs,d::ds,h=>
   obtain⟨p,q,h1,h2,rfl⟩:=h;simp only[J8,eZ,aJ,aL]at hp;exact⟨p,q,WideElems.Trod_stays hl hp.1.1 hp.1.2 h1 (fun x hx=>hst.sameAt (hs x (cF _ hx)).1) (fun x hx=>(hs x (cF _ hx)).2),
    M4 hst hl hp.2 h2 (fun x hx=>hs x (eT _ hx)),rfl⟩
theorem Rn{f:Func}{s:ChangeSpec}{W W':World}{args:Array Value}{ds gs:List (DataW H)}{before:List MemPlace}{t:TypeId}
  (hW:DataW.Whole enc P f.params.toList s.vars false W args.toList ds gs before)(hst:Stay W W')(hl:laidOutB P=true)(hp:J8 P f.params.toList=true)(hv:s.vars=[])
  (hs:s.fn H (ds++gs)={results:=[.lit (.bool true)],args:=ds})(hr:f.resultTypes=#[t])(ht:P.underlying t=some .bool):
  s.post enc P f false true false false W args (.bool true) W':=by
 have hlt:=fun p hp=>hW.lt (p:=p) hp;have hW1:=hW;obtain⟨pa,pv,hA,hV,hps,hz,hn⟩:=hW;have hpv:pv=[]/\gs=[]:=by
  rw[hv]at hV;obtain⟨rfl,rfl⟩:=trodVars_none hV;exact⟨rfl,rfl⟩
 obtain⟨rfl,rfl⟩:=hpv;simp only[bG]at hps hs;subst hps;have args':∀sp:Nat->Bool,(∀p∈before,sp p.block=true)->DataW.TrodAll enc P W' 0 sp true f.params.toList args.toList ds before:=
  fun sp hsp=>M4 hst hl hp hA fun p hp=>⟨hlt p hp,hsp p hp⟩
 have res:∀(b:Nat) (sp:Nat->Bool) (hd:Bool),DataW.TrodAll enc P W' b sp hd f.resultTypes.toList ((Value.bool true).resultList f.resultTypes.size) [.lit (.bool true)] []:=by
  intro b sp hd;rw[hr];exact trodAll_cons_mk (shut_bool ht true) trodAll_mk0
 have vars:∀sp:Nat->Bool,DataW.TrodVars enc P W' sp s.vars ([]:List (DataW H)) []:=by
  intro sp;rw[hv];exact rfl
 have hvars:(s.fn H (ds++[])).vars=[]:=by rw[bG,hs]
 have e0:s.fn H (ds++[])={results:=[.lit (.bool true)],args:=ds}:=by rw[bG];exact hs
 refine⟨ds,[],before,[],before,[],hW1,?_,?_,?_,World.keptBut_mono (fun _ f=>f.elim) hst.kept,fun _=>?_⟩
 ·rw[e0];exact res _ _ _
 ·rw[e0];exact args' _ (fun p hp=>by simpa using hlt p hp)
 ·rw[e0];exact vars _
 ·refine⟨ok_one hr rfl (okWide_bool_mk ht _),[.lit (.bool true)]++ds,[],([]++before)++[],⟨[]++before,[],trodAll_append (args' _ (fun _ _=>rfl)) (res _ _ _),vars _,rfl,?_,?_⟩,?_⟩
  ·intro b off hp;simp only[dB,bG]at hp;rw[hst.mark _ (hlt _ hp)];exact hz b off hp
  ·intro ha;cases ha
  ·intro p hp _;simpa using hp
end
end Go.Vm
