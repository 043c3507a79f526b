/- A further item of a definition: the errors stay, what is gathered grows. Plain. -/
import Derived.Test.YtahhamfngafmcaaGreatDoorM30
set_option linter.unusedVariables false
set_option linter.unusedSimpArgs false
set_option maxRecDepth 100000
set_option maxHeartbeats 4000000
namespace Go.Proofs.YtahhamfngafmcaaGreatDoor
open Go Go.Vm
def addIt(l:List Df)(n:Nat)(x:It):List Df:=l.modify n fun d=>⟨d.name,d.items++[x]⟩
theorem addIt_len(l:List Df)(n:Nat)(x:It):(addIt l n x).length=l.length:=by unfold addIt;rw[List.length_modify]
theorem addIt_get(l:List Df)(n:Nat)(x:It)(i:Nat):(addIt l n x)[i]? =(l[i]?).map fun d=>if n=i then⟨d.name,d.items++[x]⟩else d:=by
 unfold addIt
 rw[List.getElem?_modify]
 by_cases h:n=i
 ·simp[h]
 ·simp[h]
theorem addIt_items{l:List Df}{k:Nat}(n:Nat)(x:It)(h:∀d,d∈l->d.items.length<=k):∀d,d∈addIt l n x->d.items.length<=k+1:=fun d hd=>by
 obtain⟨i,hi⟩:=List.mem_iff_getElem?.1 hd
 rw[addIt_get]at hi
 cases he:l[i]? with
 |none=>rw[he]at hi;cases hi
 |some e=>
  rw[he]at hi
  simp only[Option.map_some,Option.some.injEq]at hi
  have:=h e (List.mem_of_getElem? he)
  subst hi
  split
  ·simp only[List.length_append,List.length_singleton];omega
  ·omega
theorem addIt_names(l:List Df)(n:Nat)(x:It):(addIt l n x).map (·.name)=l.map (·.name):=by
 refine List.ext_getElem? fun i=>?_
 rw[List.getElem?_map,List.getElem?_map,addIt_get]
 cases l[i]? with
 |none=>rfl
 |some d=>simp only[Option.map_some];split<;>rfl
theorem findD_names{l m:List Df}(h:m.map (·.name)=l.map (·.name))(s:ByteArray):findD m s=findD l s:=by
 have e:∀k:List Df,findD k s=(k.map (·.name)).findIdx? fun z=>sEq z s:=fun k=>by rw[List.findIdx?_map];rfl
 rw[e,e,h]
theorem findD_add(l:List Df)(n:Nat)(x:It)(s:ByteArray):findD (addIt l n x) s=findD l s:=findD_names (addIt_names l n x) s
section
variable {S:Type} {v:It->S->Int×S} (hv:∀x s s',(v x s).1=(v x s').1)
include hv
theorem folI_add{rec rec':ByteArray->List Nat->S->Int×List Nat×S}(hrec:∀nm d s s',(rec nm d s).1=(rec' nm d s').1/\(rec nm d s).2.1=(rec' nm d s').2.1){tail:List It}(ht:∀x,x∈tail->x.kind≠3/\∀s,(v x s).1=0):
  ∀(its:List It) (d:List Nat) (s s':S),(folI v rec its d s).1=(folI v rec' (its++tail) d s').1/\(folI v rec its d s).2.1=(folI v rec' (its++tail) d s').2.1
 |[],d,s,s'=>by
  have:∀(tl:List It) (s':S),(∀x,x∈tl->x.kind≠3/\∀s,(v x s).1=0)->(folI v rec' tl d s').1=0/\(folI v rec' tl d s').2.1=d:=by
   intro tl
   induction tl with
   |nil=>intro s' _;exact⟨rfl,rfl⟩
   |cons x tl ih=>
    intro s' hx
    obtain⟨h1,h2⟩:=hx x (by simp)
    rw[folI_cons,if_neg h1,if_pos (h2 s')]
    exact ih _ fun y hy=>hx y (List.mem_cons_of_mem _ hy)
  obtain⟨h1,h2⟩:=this tail s' ht
  rw[List.nil_append,h1,h2]
  exact⟨rfl,rfl⟩
 |x::r,d,s,s'=>by
  rw[List.cons_append,folI_cons,folI_cons]
  have hq:(if x.kind=3 then rec x.name d s else((v x s).1,d,(v x s).2)).1=(if x.kind=3 then rec' x.name d s' else((v x s').1,d,(v x s').2)).1/\(if x.kind=3 then rec x.name d s else((v x s).1,d,(v x s).2)).2.1=(if x.kind=3 then rec' x.name d s' else((v x s').1,d,(v x s').2)).2.1:=by
   by_cases hk:x.kind=3
   ·rw[if_pos hk,if_pos hk];exact hrec _ _ _ _
   ·rw[if_neg hk,if_neg hk];exact⟨hv x s s',rfl⟩
  generalize (if x.kind=3 then rec x.name d s else((v x s).1,d,(v x s).2))=q at*
  generalize (if x.kind=3 then rec' x.name d s' else((v x s').1,d,(v x s').2))=q' at*
  obtain⟨q1,q2⟩:=hq
  by_cases h0:q.1=0
  ·rw[if_pos h0,if_pos (by omega),q2]
   exact folI_add hrec ht r _ _ _
  ·rw[if_neg h0,if_neg (by omega)]
   exact⟨q1,q2⟩
theorem fol_add(l:List Df)(n:Nat){x:It}(hx:x.kind≠3)(hx0:∀s,(v x s).1=0):∀(k:Nat) (p:List Nat) (nm:ByteArray) (d:List Nat) (s s':S),(fol v l k p nm d s).1=(fol v (addIt l n x) k p nm d s').1/\(fol v l k p nm d s).2.1=(fol v (addIt l n x) k p nm d s').2.1
 |0,p,nm,d,s,s'=>⟨rfl,rfl⟩
 |k+1,p,nm,d,s,s'=>by
  unfold fol
  rw[findD_add]
  cases hn:findD l nm with
  |none=>exact⟨rfl,rfl⟩
  |some m=>
   simp only
   split
   ·exact⟨rfl,rfl⟩
   split
   ·exact⟨rfl,rfl⟩
   obtain⟨df,hdf,_⟩:=findD_some hn
   rw[addIt_get,hdf]
   simp only[Option.map_some,Option.getD_some]
   have hI:∃tail:List It,(∀y,y∈tail->y.kind≠3/\∀s,(v y s).1=0)/\(if n=m then(⟨df.name,df.items++[x]⟩:Df)else df).items=df.items++tail:=by
    by_cases hm:n=m
    ·exact⟨[x],fun y hy=>by rw[List.mem_singleton.1 hy];exact⟨hx,hx0⟩,by rw[if_pos hm]⟩
    ·exact⟨[],fun y hy=>by simp at hy,by rw[if_neg hm,List.append_nil]⟩
   obtain⟨tail,ht,e⟩:=hI
   rw[e]
   obtain⟨q1,q2⟩:=folI_add hv (rec:=fol v l k (p++[m])) (rec':=fol v (addIt l n x) k (p++[m])) (fun nm d s s'=>fol_add l n hx hx0 k (p++[m]) nm d s s') ht df.items d s s'
   by_cases h0:(folI v (fol v l k (p++[m])) df.items d s).1=0
   ·rw[if_pos h0,if_pos (by omega),q2]
    exact⟨rfl,rfl⟩
   ·rw[if_neg h0,if_neg (by omega)]
    exact⟨q1,q2⟩
end
theorem lead_add{U:Type}{l:List Df}{vis:It->U->Prop}{nm:ByteArray}{u:U}(n:Nat)(x:It)(h:Lead l vis nm u):Lead (addIt l n x) vis nm u:=by
 have key:∀{m:Nat} {d:Df},l[m]? =some d->∃d',(addIt l n x)[m]? =some d'/\∀y,y∈d.items->y∈d'.items:=fun {m d} hd=>by
  rw[addIt_get,hd]
  refine⟨_,rfl,fun y hy=>?_⟩
  split
  ·exact List.mem_append_left _ hy
  ·exact hy
 induction h with
 |here h1 h2 h3 h4 h5=>
  obtain⟨d',g1,g2⟩:=key h2
  exact .here (by rw[findD_add];exact h1) g1 (g2 _ h3) h4 h5
 |there h1 h2 h3 h4 h5 ih=>
  obtain⟨d',g1,g2⟩:=key h2
  exact .there (by rw[findD_add];exact h1) g1 (g2 _ h3) h4 ih
theorem visG_err(t:Tp)(x:It)(s s':List Rg):(visG t x s).1=(visG t x s').1:=by
 unfold visG
 split
 ·rfl
 ·split<;>rfl
theorem dfsOk_add{l:List Df}{g:Bool}(h:DfsOk l g)(n:Nat){x:It}(hx:itB x g=true)(hl:∀d,d∈l->d.items.length<=15):DfsOk (addIt l n x) g where
 len:=by rw[addIt_len];exact h.len
 all:=fun i d hd=>by
  rw[addIt_get]at hd
  cases hi:l[i]? with
  |none=>rw[hi]at hd;cases hd
  |some e=>
   rw[hi]at hd
   simp only[Option.map_some,Option.some.injEq]at hd
   have he:=h.all i e hi
   have hl:=hl e (List.mem_of_getElem? hi)
   have hf:dfIx (addIt l n x) e.name=i:=by
    rw[<-he.first,dfIx,dfIx,firstIx_find,firstIx_find,findD_add]
   subst hd
   split
   ·exact⟨he.name,hf,by simp only[List.length_append,List.length_singleton];omega,by simp only[List.length_append,List.length_singleton];omega,fun y hy=>by
     rcases List.mem_append.1 hy with hy|hy
     ·exact he.all y hy
     ·rw[List.mem_singleton.1 hy];exact hx⟩
   ·exact⟨he.name,hf,he.lo,he.hi,he.all⟩
theorem grp_add(t:Tp)(i:Nt)(n:Nat){x:It}(hx:x.kind=2)(nm:ByteArray):(grpP t i nm).2=(grpP t {i with grps:=addIt i.grps n x} nm).2/\∀u,has (grpP t i nm).1 u=true->has (grpP t {i with grps:=addIt i.grps n x} nm).1 u=true:=by
 have he:(grpE t i.grps nm).1=(grpE t (addIt i.grps n x) nm).1:=by
  unfold grpE
  split
  ·rfl
  ·simp only[addIt_len]
   exact(fol_add (visG_err t) i.grps n (by omega) (fun s=>by unfold visG;rw[if_pos hx]) _ _ _ _ _ _).1
 have hm:(grpE t i.grps nm).1=0->∀u,has (grpE t i.grps nm).2 u=true->has (grpE t (addIt i.grps n x) nm).2 u=true:=fun h0 u hu=>by
  cases hn:sEq nm ⟨#[]⟩with
  |true=>
   have e:∀l,(grpE t l nm).2=t.edges.map fun e=>e.pf.rg:=fun l=>by unfold grpE;rw[if_pos hn]
   rw[e]at hu⊢;exact hu
  |false=>
   rw[(grp_lead hn h0).2]at hu
   rw[(grp_lead hn (by rw[<-he];exact h0)).2]
   exact lead_add n x hu
 have e1:grpP t i nm=if(grpE t i.grps nm).1=0 then(canO (has (grpE t i.grps nm).2),0)else([],(grpE t i.grps nm).1):=rfl
 have e2:grpP t {i with grps:=addIt i.grps n x} nm=if(grpE t (addIt i.grps n x) nm).1=0 then(canO (has (grpE t (addIt i.grps n x) nm).2),0)else([],(grpE t (addIt i.grps n x) nm).1):=rfl
 rw[e1,e2]
 by_cases h0:(grpE t i.grps nm).1=0
 ·rw[if_pos h0,if_pos (show(grpE t (addIt i.grps n x) nm).1=0 by rw[<-he];exact h0)]
  refine⟨rfl,fun u hu=>?_⟩
  simp only at hu⊢
  rw[(canO_has _).2]at hu⊢
  exact hm h0 u hu
 ·rw[if_neg h0,if_neg (show ¬(grpE t (addIt i.grps n x) nm).1=0 by rw[<-he];exact h0)]
  exact⟨he,fun u hu=>by simp[has]at hu⟩
theorem sum_mod{l:List Df}(n:Nat)(x:It):itsN (addIt l n x)<=itsN l+1:=by
 unfold itsN addIt
 induction l generalizing n with
 |nil=>cases n<;>simp[List.modify]
 |cons d l ih=>
  cases n with
  |zero=>simp;omega
  |succ n=>
   have:=ih n
   simp only[List.modify_succ_cons,List.map_cons,List.sum_cons]at*
   omega
theorem svcI_add{i:Nt}(n:Nat)(x:It):(∀y,y∈svcI {i with svcs:=addIt i.svcs n x}->y∈svcI i\/y=(wu x.proto,x.ports))/\(svcI {i with svcs:=addIt i.svcs n x}).length<=(svcI i).length+1:=by
 constructor
 ·intro y hy
  obtain⟨d,hd,hy⟩:=List.mem_flatMap.1 hy
  obtain⟨z,hz,rfl⟩:=List.mem_map.1 hy
  obtain⟨m,hm⟩:=List.mem_iff_getElem?.1 hd
  rw[show({i with svcs:=addIt i.svcs n x}:Nt).svcs=addIt i.svcs n x from rfl,addIt_get]at hm
  cases hi:i.svcs[m]? with
  |none=>rw[hi]at hm;cases hm
  |some e=>
   rw[hi]at hm
   simp only[Option.map_some,Option.some.injEq]at hm
   have hin:z∈e.items->(wu z.proto,z.ports)∈svcI i:=fun h=>List.mem_flatMap.2 ⟨e,List.mem_of_getElem? hi,List.mem_map.2 ⟨z,h,rfl⟩⟩
   subst hm
   split at hz
   ·rcases List.mem_append.1 hz with hz|hz
    ·exact .inl (hin hz)
    ·rw[List.mem_singleton.1 hz];exact .inr rfl
   ·exact .inl (hin hz)
 ·unfold svcI
  show((addIt i.svcs n x).flatMap fun d:Df=>d.items.map fun y=>(wu y.proto,y.ports)).length<=_
  unfold addIt
  generalize i.svcs=l
  induction l generalizing n with
  |nil=>cases n<;>simp[List.modify]
  |cons d l ih=>
   cases n with
   |zero=>simp;omega
   |succ n=>
    have:=ih n
    simp only[List.modify_succ_cons,List.flatMap_cons,List.length_append]at*
    omega
theorem svc_add{i:Nt}(h:DfsOk i.svcs false)(hk:∀x,x∈svcI i->kindI x)(hI:(svcI i).length<=1000)(hl:∀d,d∈i.svcs->d.items.length<=15)(n:Nat){x:It}(hx:itB x false=true)(hx3:x.kind≠3)(hxk:kindI (wu x.proto,x.ports))(nm:ByteArray):
  (svcP i nm).2=(svcP {i with svcs:=addIt i.svcs n x} nm).2/\∀q,InP q->memK q 5 (svcP i nm).1=true->memK q 5 (svcP {i with svcs:=addIt i.svcs n x} nm).1=true:=by
 have hj:=svcI_add (i:=i) n x
 obtain⟨_,v1,a1⟩:=svcP_ok h hk (by omega) nm
 obtain⟨_,v2,a2⟩:=svcP_ok (i:={i with svcs:=addIt i.svcs n x}) (dfsOk_add h n hx hl) (fun y hy=>by
  rcases hj.1 y hy with h1|h1
  ·exact hk y h1
  ·rw[h1];exact hxk) (by omega) nm
 cases hn:sEq nm ⟨#[]⟩with
 |true=>
  have e:∀j:Nt,svcP j nm=(initS,0):=fun j=>by unfold svcP;rw[if_pos hn]
  rw[e,e]
  exact⟨rfl,fun q _ h=>h⟩
 |false=>
  obtain⟨b1,c1⟩:=a1 hn
  obtain⟨b2,c2⟩:=a2 hn
  have he:(svcF i.svcs nm).1=(svcF (addIt i.svcs n x) nm).1:=by
   unfold svcF
   simp only[addIt_len]
   exact(fol_add (v:=visS) (fun _ _ _=>rfl) i.svcs n hx3 (fun s=>rfl) _ _ _ _ _ _).1
  refine⟨by rw[b1,b2];exact he,fun q hq hm=>?_⟩
  by_cases h0:(svcF i.svcs nm).1=0
  ·rw[c2 (by rw[<-he];exact h0) q hq]
   obtain⟨m1,y,m2,m3⟩:=(c1 h0 q hq).1 hm
   exact⟨m1,y,lead_add n x m2,m3⟩
  ·have e:(svcP i nm).1=[]:=by unfold svcP;rw[if_neg (by rw[hn];decide),if_pos h0]
   rw[e,memK_nil]at hm;cases hm
theorem ACall_fin{P:Program}{f:FuncId}{args:List AV}{hs:List Vm.Obj}{K:KT}(h:ACall P f args hs fun v hs'=>finQ hs.length (enumH 0 hs') v K):ACall P f args hs K:=by
 obtain⟨h1,h2⟩:=h.elim
 refine ACall.intro h1 fun ι E w vals r hv=>(h2 ι E w vals r hv).mono ?_
 rintro e w' ⟨v,rr,hs',ι',E',he,hq,hr,hrel,hx⟩
 obtain⟨y,hs2,ι2,E2,k1,k2,k3,k4⟩:=finQ_sound hr (ι0:=ι) (fun id hid=>r.fresh id hid) hx.ex hrel hq
 exact⟨v,y,hs2,ι2,E2,he,k1,k2,k3,k4⟩
theorem sub_small{a b:List Bx}(ha:setB a=true)(hb:setB b=true)(h:∀q,InP q->memK q 5 a=true->memK q 5 b=true){K:KT}(hK:K (.sb true) []):ACall Tryz.prog 25 [encXs a,encXs b] [] K:=by
 have e1:=vld_all (okL_set ha)
 have e2:=vld_all (okL_set hb)
 have l1:=(setB_pset ha).len
 have l2:=(setB_pset hb).len
 have hn:cano woB 5 (vldB a) (vldB b)=[]:=by rw[e1,e2];exact(cano_sub a b).2 h
 exact cr4Subs a b (by omega) (by rw[hn];exact Nat.zero_le _) (by rw[hn];exact hK)
theorem enTop3f(raw:List Int)(pos:Nat)(hp:pos<=raw.length)(hr:raw.length<=9223372036854775807){K:KT}
  (hK:∀(t:Tp) (pos':Nat),GTop t->t.devs.length<=3->pos'<=raw.length->K (encT t) [tapeO raw pos']):
  ACall Tryz.prog 10 [.op 0 0,.v (.int .i64 3)] [tapeO raw pos] K:=by
 refine ACall_fin (cnTop raw pos 3 (by decide) hp hr fun t p h1 h2 h3=>?_)
 (repeat' ((conv=>whnf);first|(with_reducible refine sl_full (List.length_map ..) ?_)|refine zG ?_|apply zA|(apply zI;intro h)|exact zT));(all_goals conv=>whnf)
 exact hK t p h1 (by omega) h3
theorem flat_encR(c:List Rg):∀x,x∈c.map encR->x.cells.all AV.flat1=true:=by
 intro x hx
 obtain⟨r,_,rfl⟩:=List.mem_map.1 hx
 rfl
theorem c39o(hs:Sorts)(l:List Rg)(hl:l.length<100000){K:KT}(hK:∀c,Canon c->(∀v,has c v=has l v)->c.length<=l.length->K (.os 0 2 0 c.length) [.arr 2 (c.map encR)]):ACall Tryz.prog 142 [encRs l] [] K:=by
 refine of39o rfl rfl ?_
 (conv=>whnf)
 refine Lp.intro Nat (fun k=>⟨2,[(0,.arr 2 (((l.take k).filter okR).map encR)),(1,.arr 2 [])],[(3,.os 0 2 0 ((l.take k).filter okR).length),(4,.os 1 2 0 0),(10,encRs l),(11,.v (.int .i64 (l.map encR).length)),(12,.v (.int .i64 k))]⟩) (fun k=>k<=l.length) (fun k=>l.length-k) 0 ?_ ?_ ?_
 ·exact Nat.zero_le _
 ·exact⟨[(0,0),(1,1)],rfl,⟨rfl,rfl,rfl,rfl,rfl,trivial⟩,⟨rfl,rfl,trivial⟩⟩
 ·intro k hk
  rcases Nat.lt_or_ge k l.length with hkl|hkl
  ·obtain⟨r,hr⟩:=gex hkl
   have b1:=r.l0;have b2:=r.l1;have b3:=r.h0;have b4:=r.h1
   have e:(l.take (k+1)).filter okR=(l.take k).filter okR++(if r.lo<=r.hi then [r]else []):=by
    rw[List.take_add_one,hr,Option.toList_some,List.filter_append]
    simp only[okR,List.filter_cons,List.filter_nil,decide_eq_true_eq]
   have hlen:((l.take k).filter okR).length<=l.length:=Nat.le_trans (List.length_filter_le _ _) (by rw[List.length_take];omega)
   iterate 30 (all_goals((conv=>whnf);first|(with_reducible first|refine in_map hkl ?_|refine ix_map hr ?_)|refine zG ?_|apply zA|(apply zI;intro h)|exact zT|skip))
   ·refine⟨k+1,by omega,by omega,?_⟩
    rw[e,if_pos (by assumption),List.map_append,List.length_append]
    exact⟨[(0,4),(1,1)],rfl,⟨rfl,rfl,rfl,rfl,rfl,trivial⟩,⟨rfl,rfl,trivial⟩⟩
   ·refine⟨k+1,by omega,by omega,?_⟩
    rw[e,if_neg (by assumption),List.append_nil]
    exact⟨[(0,0),(1,1)],rfl,⟨rfl,rfl,rfl,rfl,rfl,trivial⟩,⟨rfl,rfl,trivial⟩⟩
  ·rw[List.take_of_length_le hkl]
   have hlen:(l.filter okR).length<=l.length:=List.length_filter_le _ _
   iterate 6 (all_goals((conv=>whnf);first|(with_reducible refine in_map hkl ?_)|refine zG ?_|apply zA|(apply zI;intro h)|exact zT|skip))
   refine hs (l.filter okR) _ rfl (by omega) _ fun d hperm hsort=>?_
   have hn:(l.filter okR).length=d.length:=hperm.length_eq.symm
   rw[hn]
   (conv=>whnf)
   refine Lp.intro Nat (fun k=>⟨2,[(0,.arr 2 (d.map encR)),(1,.arr 2 (((d.take k).foldl mergeS []).map encR))],[(4,.os 1 2 0 ((d.take k).foldl mergeS []).length),(28,.os 0 2 0 d.length),(29,.v (.int .i64 d.length)),(30,.v (.int .i64 k))]⟩) (fun k=>k<=d.length/\((d.take k).foldl mergeS []).length<=k) (fun k=>d.length-k) 0 ?_ ?_ ?_
   ·exact⟨Nat.zero_le _,by simp⟩
   ·exact⟨[(0,0),(1,1)],rfl,⟨rfl,rfl,rfl,rfl,trivial⟩,⟨rfl,rfl,trivial⟩⟩
   ·intro k ⟨hk,hle⟩
    rcases Nat.lt_or_ge k d.length with hkl|hkl
    ·obtain⟨r,hr⟩:=gex hkl
     have hr0:d[0+k]? =some r:=by rw[Nat.zero_add];exact hr
     have b1:=r.l0;have b2:=r.l1;have b3:=r.h0;have b4:=r.h1
     have hs2:=foldl_succ (f:=mergeS) (b:=[]) hr
     generalize hout:(d.take k).foldl mergeS []=out at hs2 hle⊢
     have hj:(k:Int)<(d.length:Int):=by omega
     rcases List.eq_nil_or_concat out with hnil|⟨ini,p,hcat⟩
     ·subst hnil
      iterate 30 (all_goals((conv=>whnf);first|(with_reducible first|refine In.intro k rfl (by omega) ?_|refine ix_map hr ?_|refine ix_map hr0 ?_)|refine zG ?_|apply zA|(apply zI;intro h)|exact zT|skip))
      refine⟨k+1,⟨by omega,by rw[hs2];simp[mergeS]⟩,by omega,?_⟩
      rw[hs2,show mergeS [] r=[r]from rfl]
      exact⟨[(0,0),(1,4)],rfl,⟨rfl,rfl,rfl,rfl,trivial⟩,⟨rfl,rfl,trivial⟩⟩
     ·rw[List.concat_eq_append]at hcat
      subst hcat
      have p1:=p.l0;have p2:=p.l1;have p3:=p.h0;have p4:=p.h1
      have hp:(ini++[p])[ini.length]? =some p:=by simp
      have hp0:(ini++[p])[0+ini.length]? =some p:=by simp
      have hi:((((ini++[p]).length:Nat):Int)-1=ini.length)/\ini.length<(ini++[p]).length:=by simp
      iterate 40 (all_goals((conv=>whnf);first|(with_reducible first|refine In.intro k rfl (by omega) ?_|refine ix_map hr ?_|refine ix_map hr0 ?_|refine In.intro ini.length hi.1 hi.2 ?_|refine ix_map hp ?_|refine ix_map hp0 ?_)|refine zG ?_|apply zA|(apply zI;intro h)|exact zT|skip))
      ·have e:mergeS (ini++[p]) r=ini++[mkR p.lo (max p.hi r.hi)]:=by
        simp only[mergeS,List.getLast?_append,List.getLast?_singleton,Option.some_or,List.dropLast_concat]
        rw[if_pos (by assumption)]
       refine⟨k+1,⟨by omega,by rw[hs2];have:=mergeS_length (ini++[p]) r;omega⟩,by omega,?_⟩
       rw[hs2,e,List.map_append,List.map_cons,List.map_nil,enc_mkR (by omega) (by omega) (by omega) (by omega)]
       have e2:(ini.map encR++[.agg [.v (.int .u32 p.lo),.v (.int .u32 (max p.hi r.hi))]])=((ini++[p]).map encR).set (0+ini.length) (.agg [.v (.int .u32 p.lo),.v (.int .u32 (max p.hi r.hi))]):=by
        rw[List.map_append,List.set_append_right _ _ (by simp)]
        simp
       rw[e2,show(ini++[mkR p.lo (max p.hi r.hi)]).length=(ini++[p]).length by simp]
       exact⟨[(0,0),(1,1)],rfl,⟨rfl,rfl,rfl,rfl,trivial⟩,⟨rfl,rfl,trivial⟩⟩
      ·have e:mergeS (ini++[p]) r=ini++[p]++[r]:=by
        simp only[mergeS,List.getLast?_append,List.getLast?_singleton,Option.some_or,List.dropLast_concat]
        rw[if_neg (by assumption)]
       refine⟨k+1,⟨by omega,by rw[hs2];have:=mergeS_length (ini++[p]) r;omega⟩,by omega,?_⟩
       rw[hs2,e,List.map_append (l₁:=ini++[p]),show(ini++[p]++[r]).length=(ini++[p]).length+1 from by simp]
       exact⟨[(0,0),(1,4)],rfl,⟨rfl,rfl,rfl,rfl,trivial⟩,⟨rfl,rfl,trivial⟩⟩
    ·rw[List.take_of_length_le hkl]at hle⊢
     iterate 8 (all_goals((conv=>whnf);first|refine zG ?_|apply zA|(apply zI;intro h)|exact zT|skip))
     have hok:∀r,r∈d->r.lo<=r.hi:=fun r hr=>by
      have:=(List.mem_filter.1 (hperm.subset hr)).2
      simpa[okR]using this
     obtain⟨g1,g2,g3⟩:=fold_merge d [] canon_nil (fun p hp=>by simp at hp) hsort hok
     refine hK _ g1 (fun v=>?_) (by simp only[List.length_nil]at g3;omega)
     rw[g2,has_nil,Bool.false_or,Bool.eq_iff_iff,has_iff,has_iff]
     constructor
     ·rintro⟨r,hr,h1,h2⟩
      exact⟨r,(List.mem_filter.1 (hperm.subset hr)).1,h1,h2⟩
     ·rintro⟨r,hr,h1,h2⟩
      refine⟨r,hperm.symm.subset (List.mem_filter.2 ⟨hr,?_⟩),h1,h2⟩
      simp only[okR,decide_eq_true_eq];omega
theorem c18o(a b:List Rg)(ha:a.length<900)(hb:b.length<900){K:KT}(hK:∀c,Canon c->(∀v,has c v=(has a v||has b v))->c.length<=a.length+b.length->K (.os 0 2 0 c.length) [.arr 2 (c.map encR)]):ACall Tryz.prog 85 [encRs a,encRs b] [] K:=by
 refine of18o rfl rfl ?_
 iterate 4 (all_goals((conv=>whnf);first|refine zG ?_|apply zA|(apply zI;intro h)|exact zT|skip))
 refine c40 [a,b] (by simp) (fun l hl=>by
  simp only[List.mem_cons,List.not_mem_nil,or_false]at hl
  rcases hl with rfl|rfl<;>omega) ?_
 (conv=>whnf)
 refine c39o sorts [a,b].flatten (by simp;omega) fun c h1 h2 h3=>?_
 have hfl:=flat_encR c
 (repeat' ((conv=>whnf);first|(refine Ob.intro hfl ?_)|refine zG ?_|apply zA|(apply zI;intro h)|exact zT));(all_goals conv=>whnf)
 refine hK c h1 (fun v=>?_) (by simpa using h3)
 rw[h2]
 simp[has]
theorem cwUn0o(a:List Rg)(ha:a.length<900){K:KT}(hK:∀c,Canon c->(∀v,has c v=has a v)->c.length<=a.length->K (.os 0 2 0 c.length) [.arr 2 (c.map encR)]):ACall Tryz.prog 85 [encRs a,.lst []] [] K:=
 c18o a [] ha (by simp) fun c h1 h2 h3=>hK c h1 (fun v=>by rw[h2];simp[has_nil]) (by simpa using h3)
theorem cwGrpO(t:Tp)(ht:t.edges.length<900)(i:Nt)(hl:i.grps.length<=999)(hit:∀d,d∈i.grps->d.items.length<=999)(nm:ByteArray)(hb:(grpE t i.grps nm).1=0->(grpE t i.grps nm).2.length<900){K:KT}
  (hK1:(grpE t i.grps nm).1≠0->K (.tup [.lst [],.v (.int .i64 (grpE t i.grps nm).1)]) [])
  (hK2:(grpE t i.grps nm).1=0->∀c,Canon c->(∀v,has c v=has (grpE t i.grps nm).2 v)->c.length<=(grpE t i.grps nm).2.length->K (.tup [.os 0 2 0 c.length,.v (.int .i64 0)]) [.arr 2 (c.map encR)]):
  ACall Tryz.prog 46 [encT t,encNt i,.v (.string nm)] [] K:=by
 refine ACall.weak (ofwGrpO rfl rfl ?_)
 unfold grpE at hb hK1 hK2
 by_cases hnm:sEq nm ⟨#[]⟩=true
 ·simp only[if_pos hnm]at hb hK1 hK2
  have hnm2:(nm.toList==(⟨#[]⟩:ByteArray).toList)=true:=hnm
  (repeat' ((conv=>whnf);first|refine zG ?_|apply zA|(apply zI;intro h)|exact zT));(all_goals conv=>whnf)
  all_goals first
   |skip
  refine Lp.intro (Nat×List Rg) (fun g=>⟨5,[(4,adO 2),(3,arrO g.2),(2,outO 3 g.2.length)],[(8,.op 2 0),(9,.op 4 0),(17,.lst (t.edges.map encE)),(18,.v (.int .i64 (t.edges.map encE).length)),(19,.v (.int .i64 g.1))]⟩)
   (fun g=>g.1<=t.edges.length/\g.2=(t.edges.take g.1).map fun e=>e.pf.rg) (fun g=>t.edges.length-g.1) (0,[]) ⟨Nat.zero_le _,rfl⟩ ?_ ?_
  ·(exact leA)
  rintro⟨k,out⟩ ⟨hk,ho⟩
  simp only at hk ho⊢
  have hol:out.length=k:=by rw[ho,List.length_map,List.length_take];omega
  rcases Nat.lt_or_ge k t.edges.length with hkl|hkl
  ·obtain⟨e,he⟩:=gex hkl
   (repeat' ((conv=>whnf);first|(with_reducible first|refine in_map hkl ?_|refine ix_map he ?_|refine cwAdd e.pf out (by omega) ?_)|refine zG ?_|apply zA|(apply zI;intro h)|exact zT));(all_goals conv=>whnf)
   refine⟨(k+1,out++[e.pf.rg]),⟨hkl,?_⟩,by simp only;omega,?_⟩
   ·simp only
    rw[ho,List.take_add_one,he,List.map_append]
    rfl
   ·simp only[Int.natCast_add,Int.natCast_one]
    (exact leA)
  ·have hke:k=t.edges.length:=by omega
   rw[hke,List.take_length]at ho
   rw[<-ho]at hK2
   (repeat' ((conv=>whnf);first|(with_reducible first|refine sl_full (List.length_map ..) ?_|refine cwUn0o out (by omega) fun c hc1 hc2 hc3=>?_)|refine zG ?_|apply zA|(apply zI;intro h)|exact zT));(all_goals conv=>whnf)
   exact⟨_,Weak.refl,hK2 trivial c hc1 hc2 hc3⟩
 ·simp only[if_neg hnm]at hb hK1 hK2
  have hnm2:(nm.toList==(⟨#[]⟩:ByteArray).toList)=false:=by simpa[sEq]using hnm
  have hc:=fun {K} h=>@cwStart t (by omega) i.grps hl hit nm K h
  generalize fol (visG t) i.grps (i.grps.length+1) [] nm [] []=q at*
  obtain⟨qe,qd,qs⟩:=q
  simp only at hb hK1 hK2 hc
  (repeat' ((conv=>whnf);first|(with_reducible first|refine hc ?_|refine sl_full (List.length_map ..) ?_|refine cwUn0o qs (hb (by assumption)) fun c hc1 hc2 hc3=>?_)|refine zG ?_|apply zA|(apply zI;intro h)|exact zT));(all_goals conv=>whnf)
  all_goals first
   |(exfalso;simp_all;done)
   |exact⟨_,Weak.refl,hK2 (by assumption) c hc1 hc2 hc3⟩
   |exact⟨_,Weak.tup2 Weak.nils Weak.refl,hK1 (by assumption)⟩
   |trace_state
theorem grpP_errO(t:Tp)(i:Nt)(nm:ByteArray):(grpP t i nm).2≠0->(grpP t i nm).1=[]:=by
 unfold grpP
 split
 ·intro h;exact absurd rfl h
 ·intro _;rfl
theorem crGroupO(t:Tp)(ht:t.edges.length<1000000)(hc:compB t=true)(i:Nt)(hb:Bnd i)(hv:ntB i=true)(nm:ByteArray){K:KT}
  (hK1:(grpP t i nm).2≠0->(grpP t i nm).1=[]->K (.tup [.lst [],.v (.int .i64 (grpP t i nm).2)]) [])
  (hK2:(grpP t i nm).2=0->K (.tup [.os 0 2 0 (grpP t i nm).1.length,.v (.int .i64 0)]) [.arr 2 ((grpP t i nm).1.map encR)]):
  ACall Tryz.prog 13 [encT t,encNt i,.v (.string nm)] [] K:=by
 refine ACall.weak (ofwGroO rfl rfl ?_)
 have h12:=comp_edges hc
 have hits:=hb.its
 have hg:=fun {K} h0 h1 h2=>@cwGrpO t (by omega) i hb.g hb.gi nm h0 K h1 h2
 have hg0:(grpE t i.grps nm).1=0->(grpE t i.grps nm).2.length<900:=fun h=>by
  have:=grpE_len (l:=i.grps) h12 h;omega
 (repeat' ((conv=>whnf);first|(with_reducible first|refine ctComp t ht ?_|refine ckNt i hb ?_)|refine zG ?_|apply zA|(apply zI;intro h)|exact zT));(all_goals conv=>whnf)
 all_goals try(exfalso;simp_all;done)
 refine hg hg0 (fun h=>?_) (fun h c h1 h2 h3=>?_)
 ·rw[grpP,if_neg h]at hK1
  (repeat' ((conv=>whnf);first|refine zG ?_|apply zA|(apply zI;intro h)|exact zT));(all_goals conv=>whnf)
  exact⟨_,Weak.refl,hK1 h rfl⟩
 ·rw[grpP,if_pos h,canO_eq h1 h2]at hK2
  have hfl:=flat_encR c
  (repeat' ((conv=>whnf);first|(refine Ob.intro hfl ?_)|refine zG ?_|apply zA|(apply zI;intro h)|exact zT));(all_goals conv=>whnf)
  exact⟨_,Weak.refl,hK2 rfl⟩
end Go.Proofs.YtahhamfngafmcaaGreatDoor
