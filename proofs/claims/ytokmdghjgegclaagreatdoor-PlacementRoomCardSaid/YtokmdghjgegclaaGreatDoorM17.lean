/- Placement in plain Lean: with much room, and with none. -/
import Derived.Test.YtokmdghjgegclaaGreatDoorProg
import Derived.Test.YtokmdghjgegclaaGreatDoorM16
set_option linter.unusedVariables false
set_option linter.unusedSimpArgs false
set_option maxRecDepth 100000
set_option maxHeartbeats 4000000
namespace Go.Proofs.YtokmdghjgegclaaGreatDoor
open Go Go.Vm
def wgt(x:Pl):Nat:=1+x.allow.length
theorem sumB_rg:∀l:List Bx,sumB l true<=l.length
 |[]=>Nat.zero_le _
 |x::l=>by
  have:=sumB_rg l
  have h:costB x true<=1:=by unfold costB;split<;>simp
  simp only[sumB,List.map_cons,List.sum_cons,List.length_cons]at*
  omega
theorem costB_rg(b:Bx):costB b true<=1:=by unfold costB;split<;>simp
def RoomT(t:Tp):Prop:=∀d,d∈t.devs->d.cap=4096/\d.rg=true
theorem rgD_room{t:Tp}(h:RoomT t){i:Nat}(hi:i<t.devs.length):rgD t.devs i=true:=by
 unfold rgD
 rw[List.getElem?_eq_getElem hi]
 exact(h _ (List.getElem_mem hi)).2
theorem costP_room{t:Tp}(h:RoomT t)(hd:DevIn t){x:Pl}(hx:PlIn t x){c:List Nat}{B:Nat}(hc:∀v,v∈c->v<=B):∀v,v∈costP t c x->v<=B+wgt x:=by
 have h1:=sumB_rg x.allow
 have h2:=costB_rg (whoT t x.a x.b)
 have e1:=rgD_room h (enf_lt hd hx)
 have e2:=rgD_room h (oth_lt hd hx)
 intro v hv
 unfold costP at hv
 rw[e1,e2]at hv
 have:=addAt_small (addAt_small hc) v hv
 unfold wgt
 omega
theorem fits_room{t:Tp}(h:RoomT t){c:List Nat}(hc:∀v,v∈c->v<=4096):fitsP t c=true:=fitsP_iff.2 fun i d v hd hv=>by
 have h1:=(h d (List.mem_of_getElem? hd)).1
 have h2:=hc v (List.mem_of_getElem? hv)
 omega
theorem placeGo_room{t:Tp}(h:RoomT t)(hd:DevIn t):∀(l o:List Pl) (c:List Nat) (B:Nat),(∀x,x∈l->PlIn t x)->(∀v,v∈c->v<=B)->B+(l.map wgt).sum<=4096->placeGo t l (o,c)=some (o++l,costsGo t l c)
 |[],o,c,B,_,_,_=>by rw[placeGo,List.append_nil];rfl
 |x::l,o,c,B,hl,hc,hB=>by
  simp only[List.map_cons,List.sum_cons]at hB
  have h1:=costP_room h hd (hl x (by simp)) hc
  rw[placeGo,placeStep]
  simp only
  rw[if_pos (fits_room h fun v hv=>by have:=h1 v hv;omega)]
  simp only
  rw[placeGo_room h hd l (o++[x]) (costP t c x) (B+wgt x) (fun y hy=>hl y (List.mem_cons_of_mem _ hy)) h1 (by omega),List.append_assoc]
  rfl
noncomputable def rulesP(t:Tp)(p:Pol)(l:List (Nat×Nat)):Nat:=(l.map fun q=>1+(pairP t p q.1 q.2).1.length).sum
theorem rules_pairs(t:Tp)(p:Pol):∀l:List (Nat×Nat),((pairsOf t p l).map wgt).sum<=rulesP t p l
 |[]=>Nat.le_refl _
 |q::l=>by
  have ih:=rules_pairs t p l
  unfold rulesP pairsOf at*
  rw[List.map_cons,List.sum_cons,List.filterMap_cons]
  by_cases h:(pairP t p q.1 q.2).1=[]
  ·rw[if_pos h];simp only;omega
  ·rw[if_neg h]
   simp only[List.map_cons,List.sum_cons,wgt]at*
   omega
theorem pairs_in(t:Tp)(p:Pol):∀x,x∈pairsOf t p (idxI t.edges.length)->PlIn t x/\x.eg=false:=pairsOf_in (t:=t) (p:=p) (l:=idxI t.edges.length) (fun q hq=>preI_mem (Nat.le_refl _) (Nat.zero_le _) (.inl rfl) q hq)
theorem edge_pf{t:Tp}(h:compB t=true){i:Nat}{e:Ed}(he:t.edges[i]? =some e):e.pf.rg.lo<=e.pf.rg.hi:=by
 have ht:=(compB_iff.1 h).1
 obtain⟨_,_,_,_,_,this,_⟩:=(ht.edge i e he).1
 rw[rg_lo this,rg_hi this]
 have:=pz_pos e.pf.bits
 omega
theorem who_ok{t:Tp}(h:compB t=true){a b:Nat}{ea eb:Ed}(ha:t.edges[a]? =some ea)(hb:t.edges[b]? =some eb):(whoB ea.pf eb.pf).ok:=
 ⟨⟨edge_pf h ha,ea.pf.rg.h1⟩,⟨edge_pf h hb,eb.pf.rg.h1⟩,(show fullB.r2.lo<=fullB.r2.hi/\fullB.r2.hi<=255 by decide),(show fullB.r3.lo<=fullB.r3.hi/\fullB.r3.hi<=65535 by decide),(show fullB.r4.lo<=fullB.r4.hi/\fullB.r4.hi<=65535 by decide)⟩
theorem pairP_in{t:Tp}{p:Pol}(hp:PolOk t p){a b:Nat}(ha:a<t.edges.length)(hb:b<t.edges.length):(pairP t p a b).2=0/\(pairP t p a b).1.length<=p.allow.length:=by
 unfold pairP
 rw[if_neg (by rw[hp.comp];decide),if_neg (by omega)]
 split
 ·exact⟨rfl,Nat.zero_le _⟩
 ·simp only[Int.toNat_natCast,List.getElem?_eq_getElem ha,List.getElem?_eq_getElem hb]
  exact comb_one hp.set (who_ok hp.comp (List.getElem?_eq_getElem ha) (List.getElem?_eq_getElem hb))
theorem errOf_zero{t:Tp}{p:Pol}:∀{l:List (Nat×Nat)},(∀q,q∈l->(pairP t p q.1 q.2).2=0)->errOf t p l=0
 |[],_=>rfl
 |q::l,h=>by
  rw[errOf,if_neg (fun hn=>hn (h q (by simp)))]
  exact errOf_zero fun x hx=>h x (List.mem_cons_of_mem _ hx)
theorem err_pol{t:Tp}{p:Pol}(hp:PolOk t p):errOf t p (idxI t.edges.length)=0:=errOf_zero fun q hq=>by
 have hb:=preI_mem (n:=t.edges.length) (a:=t.edges.length) (b:=0) (Nat.le_refl _) (Nat.zero_le _) (.inl rfl) q hq
 exact(pairP_in hp hb.1 hb.2).1
theorem placeP_pol{t:Tp}{p:Pol}(hp:PolOk t p):placeP t p=match placeGo t (pairsOf t p (idxI t.edges.length)) ([],zeros t.devs.length)with
  |some s=>(s.1,0)
  |none=>([],9):=by
 unfold placeP
 rw[polB_true hp,if_neg (by decide),if_neg (fun h=>h (err_pol hp))]
 cases placeGo t (pairsOf t p (idxI t.edges.length)) ([],zeros t.devs.length)<;>rfl
theorem place_cases{t:Tp}{p:Pol}(hp:PolOk t p):placeP t p=([],9)\/∃m,placeP t p=(m,0)/\m.map keyP=(pairsOf t p (idxI t.edges.length)).map keyP/\(m=[]\/fitsP t (costsGo t m (zeros t.devs.length))=true)/\plsB t m=true:=by
 rw[placeP_pol hp]
 cases hg:placeGo t (pairsOf t p (idxI t.edges.length)) ([],zeros t.devs.length)with
 |none=>exact .inl rfl
 |some s=>
  obtain⟨m,h1,h2,h3,h4⟩:=placeGo_some t _ _ _ _ hg
  rw[List.nil_append]at h1
  refine .inr ⟨s.1,rfl,by rw[h1];exact h2,?_,plsB_true (pls_of_keys hp (by rw[h1];exact h2))⟩
  rw[h1]
  rcases h4 with h4|h4
  ·exact .inl h4
  ·right;rw[<-h3];exact h4
/-! with no room -/
theorem blkN_pos{r:Rg}(h:r.lo<=r.hi):1<=blkN r:=by
 unfold blkN blkL
 rw[blksOf_step (by have:=r.l0;omega)]
 exact Nat.succ_pos _
theorem costB_pos{b:Bx}(h:b.ok)(rg:Bool):1<=costB b rg:=by
 unfold costB
 rw[if_pos h]
 split
 ·exact Nat.le_refl _
 ·have h0:=blkN_pos h.1.1;have h1:=blkN_pos h.2.1.1;have h2:=blkN_pos h.2.2.1.1;have h3:=blkN_pos h.2.2.2.1.1;have h4:=blkN_pos h.2.2.2.2.1
  exact Nat.mul_pos (Nat.mul_pos (Nat.mul_pos (Nat.mul_pos h0 h1) h2) h3) h4
theorem sumB_pos{l:List Bx}(hn:l≠[])(h:∀x,x∈l->x.ok)(rg:Bool):1<=sumB l rg:=by
 cases l with
 |nil=>exact absurd rfl hn
 |cons x l=>
  have:=costB_pos (h x (by simp)) rg
  simp only[sumB,List.map_cons,List.sum_cons]
  omega
theorem addAt_self{l:List Nat}{i v:Nat}(h:i<l.length):v<=(addAt l i v).getD i 0:=by
 rw[addAt,List.getD_eq_getElem?_getD,List.getElem?_set_self h]
 simp
theorem addAt_mono(l:List Nat)(i j v:Nat):l.getD i 0<=(addAt l j v).getD i 0:=by
 unfold addAt
 rcases Nat.lt_or_ge i l.length with hi|hi
 ·by_cases h:j=i
  ·subst h
   rw[List.getD_eq_getElem?_getD (l:=l.set j _),List.getElem?_set_self hi]
   simp
  ·rw[List.getD_eq_getElem?_getD,List.getD_eq_getElem?_getD,List.getElem?_set_ne h]
   exact Nat.le_refl _
 ·rw[List.getD_eq_getElem?_getD,List.getElem?_eq_none hi];simp
theorem fits_zero{t:Tp}(hz:∀d,d∈t.devs->d.cap=0)(hd:DevIn t){x:Pl}(hx:PlIn t x)(hn:x.allow≠[])(ho:∀b,b∈x.allow->b.ok){c:List Nat}(hc:c.length=t.devs.length):fitsP t (costP t c x)=false:=by
 rw[Bool.eq_false_iff,ne_eq,fitsP_iff]
 intro hf
 have he:=enf_lt hd hx
 have h1:=addAt_self (l:=c) (v:=sumB x.allow (rgD t.devs (enfD t x))) (i:=enfD t x) (by omega)
 have h2:=addAt_mono (addAt c (enfD t x) (sumB x.allow (rgD t.devs (enfD t x)))) (enfD t x) (othD t x) (costB (whoT t x.a x.b) (rgD t.devs (othD t x)))
 have h3:=sumB_pos hn ho (rgD t.devs (enfD t x))
 have hl:enfD t x<(costP t c x).length:=by rw[costP_len];omega
 have h4:=hf (enfD t x) t.devs[enfD t x] (costP t c x)[enfD t x] (List.getElem?_eq_getElem he) (List.getElem?_eq_getElem hl)
 rw[hz _ (List.getElem_mem he)]at h4
 have h5:(costP t c x).getD (enfD t x) 0=(costP t c x)[enfD t x]:=by rw[List.getD_eq_getElem?_getD,List.getElem?_eq_getElem hl];rfl
 unfold costP at h5 h4
 omega
theorem mem_pairsB{es:List Ed}{w:Bx}(h:w∈pairsB es):∃(i j:Nat) (a b:Ed),i≠j/\es[i]? =some a/\es[j]? =some b/\w=whoB a.pf b.pf:=by
 rw[pairsB,pairsTo,List.mem_flatMap]at h
 obtain⟨⟨a,i⟩,ha,h⟩:=h
 rw[pairsAt,List.mem_map]at h
 obtain⟨⟨b,j⟩,hb,rfl⟩:=h
 obtain⟨hb,hij⟩:=List.mem_filter.1 hb
 rw[List.take_length]at ha hb
 have ha':=List.mem_zipIdx_iff_getElem?.1 ha
 have hb':=List.mem_zipIdx_iff_getElem?.1 hb
 exact⟨i,j,a,b,by simpa using hij,ha',hb',rfl⟩
theorem giv_one_mem{w:Bx}(hw:w.ok){q:Nat->Int}(hq:InP q):memK q 5 (givP [w]).1=memK q 5 [w]:=by
 unfold givP
 split
 ·rfl
 ·have e:addO [] w=cano orB 5 [w] []:=cano_ext2 orB orB 5 _ _ _ _ (Nat.le_refl _) fun q hq=>by simp[orB,memK_nil]
  have hl:(addO [] w).length<=1:=by rw[e];exact boundO 5 [w] (Nat.le_refl _) (cn_one 5 (Nat.le_refl _) hw)
  rw[makeP,makeGo,if_pos hw,if_neg (by omega),makeGo,e,cano_mem orB hq 5 _ _ (Nat.le_refl _),memK_nil,orB,Bool.or_false]
theorem comb_one_mem{a:List Bx}{w:Bx}(ha:setB a=true)(hw:w.ok){q:Nat->Int}(hq:InP q):memK q 5 (combP anB a [w]).1=(memK q 5 a&&memK q 5 [w]):=by
 obtain⟨h1,h2,h3⟩:=giv_one hw
 have hp:=setB_pset ha
 have e:givP a=(a,0):=by rw[givP,if_pos ha]
 have hb:=boundA 5 a (givP [w]).1 (Nat.le_refl _) hp.cn h3
 have hm:a.length*(givP [w]).1.length<=a.length*1:=Nat.mul_le_mul_left _ h2
 have hl:=hp.len
 have hlim:¬4096<(cano anB 5 a (givP [w]).1).length:=by omega
 unfold combP
 rw[e]
 simp only[ne_eq,not_true_eq_false,if_false,h1,limP,if_neg hlim]
 rw[cano_mem anB hq 5 _ _ (Nat.le_refl _),giv_one_mem hw hq]
 rfl
theorem pairP_who{t:Tp}{p:Pol}(hc:compB t=true){i j:Nat}{a b:Ed}(hij:i≠j)(ha:t.edges[i]? =some a)(hb:t.edges[j]? =some b):pairP t p i j=combP anB p.allow [whoB a.pf b.pf]:=by
 have h1:=(List.getElem?_eq_some_iff.1 ha).1
 have h2:=(List.getElem?_eq_some_iff.1 hb).1
 unfold pairP
 rw[if_neg (by rw[hc];decide),if_neg (by omega),if_neg (by omega)]
 simp only[Int.toNat_natCast,ha,hb]
theorem idx_mem{n i j:Nat}(hi:i<n)(hj:j<n):(i,j)∈idxI n:=by
 rw[idxI,preI,List.mem_append]
 exact .inl (List.mem_flatMap.2 ⟨i,List.mem_range.2 hi,List.mem_map.2 ⟨j,List.mem_range.2 hj,rfl⟩⟩)
theorem pairs_ne{t:Tp}{p:Pol}(hp:PolOk t p)(ha:p.allow≠[]):pairsOf t p (idxI t.edges.length)≠[]:=by
 obtain⟨b,hb⟩:=List.exists_mem_of_ne_nil _ ha
 obtain⟨q,hq,hqb⟩:=box_point (okL_set hp.set b hb)
 have hm:memK q 5 p.allow=true:=memK_iff.2 ⟨b,hb,hqb⟩
 have hs:=hp.sub
 unfold subB at hs
 rw[vld_all (okL_set hp.set)]at hs
 have hw:=(cano_sub _ _).1 (List.isEmpty_iff.1 hs) q hq hm
 obtain⟨w,hw1,hw2⟩:=memK_iff.1 hw
 have hok:w.ok:=by simpa using(List.mem_filter.1 hw1).2
 obtain⟨i,j,x,y,hij,hx,hy,rfl⟩:=mem_pairsB (List.mem_filter.1 hw1).1
 have hpm:memK q 5 (pairP t p i j).1=true:=by
  rw[pairP_who hp.comp hij hx hy,comb_one_mem hp.set hok hq,hm,memK_iff.2 ⟨_,List.mem_singleton.2 rfl,hw2⟩];rfl
 have hne:(pairP t p i j).1≠[]:=fun e=>by rw[e,memK_nil]at hpm;cases hpm
 have hmem:(⟨i,j,false,(pairP t p i j).1⟩:Pl)∈pairsOf t p (idxI t.edges.length):=by
  rw[pairsOf,List.mem_filterMap]
  exact⟨(i,j),idx_mem (List.getElem?_eq_some_iff.1 hx).1 (List.getElem?_eq_some_iff.1 hy).1,by simp only;rw[if_neg hne]⟩
 exact fun e=>by rw[e]at hmem;cases hmem
theorem place_zero{t:Tp}{p:Pol}(hp:PolOk t p)(hz:∀d,d∈t.devs->d.cap=0):placeP t p=if p.allow=[]then([],0)else([],9):=by
 rw[placeP_pol hp]
 by_cases ha:p.allow=[]
 ·rw[if_pos ha]
  have he:pairsOf t p (idxI t.edges.length)=[]:=List.eq_nil_iff_forall_not_mem.2 fun x hx=>by
   obtain⟨q,hq,hne,_⟩:=pairsOf_mem hx
   have hb:=preI_mem (n:=t.edges.length) (a:=t.edges.length) (b:=0) (Nat.le_refl _) (Nat.zero_le _) (.inl rfl) q hq
   have:=(pairP_in hp hb.1 hb.2).2
   rw[ha]at this
   exact hne (List.length_eq_zero_iff.1 (by simpa using this))
  rw[he,placeGo]
 ·rw[if_neg ha]
  obtain⟨hdi,hnd,hne,hnd1⟩:=comp_dev hp.comp
  have hpn:=pairs_ne hp ha
  have hin:=pairs_in t p
  have hmem:=fun x=>pairsOf_mem (t:=t) (p:=p) (l:=idxI t.edges.length) (x:=x)
  generalize pairsOf t p (idxI t.edges.length)=l at*
  cases l with
  |nil=>exact absurd rfl hpn
  |cons x l=>
   have hx:=hin x (by simp)
   obtain⟨q,_,hxne,rfl⟩:=hmem x (by simp)
   have hok:=okL_bx (okL_set (pairP_set t p q.1 q.2))
   rw[placeGo,placeStep]
   simp only
   rw[fits_zero hz hdi hx.1 hxne hok (by simp[zeros]),fits_zero hz hdi (hx.1.eg true) hxne hok (by simp[zeros])]
   rfl
def wu(p:Int):Int:=IntKind.u32.wrap p
theorem wu_b(p:Int):0<=wu p/\wu p<=4294967295:=by
 unfold wu;simp only[IntKind.wrap,IntKind.signed,IntKind.bits];simp;omega
def hdrX(y:It):Bx:=⟨fullB.r0,fullB.r1,⟨wu y.proto,wu y.proto,(wu_b _).1,(wu_b _).2,(wu_b _).1,(wu_b _).2⟩,fullB.r3,y.ports⟩
def rgsI(t:Tp)(i:Nt):List Rg:=(t.edges.map fun e=>e.pf.rg)++i.grps.flatMap fun d=>d.items.map fun y=>y.pf.rg
def boxesI(i:Nt):List Bx:=initS++i.svcs.flatMap fun d=>d.items.map hdrX
def AEq(t:Tp)(i:Nt)(v v':Int):Prop:=∀r,r∈rgsI t i->inR r v=inR r v'
structure PEq (t:Tp) (i:Nt) (q q':Nat->Int):Prop where
 s:AEq t i (q 0) (q' 0)
 d:AEq t i (q 1) (q' 1)
 v:∀b,b∈boxesI i->inK q 5 b=inK q' 5 b
def RespR(t:Tp)(i:Nt)(rs:List Rg):Prop:=∀v v',AEq t i v v'->has rs v=has rs v'
def Resp(t:Tp)(i:Nt)(s:List Bx):Prop:=∀q q',InP q->InP q'->PEq t i q q'->memK q 5 s=memK q' 5 s
section
variable {t:Tp} {i:Nt}
theorem RespR.nil:RespR t i []:=fun _ _ _=>rfl
theorem RespR.of{rs:List Rg}(h:∀r,r∈rs->r∈rgsI t i):RespR t i rs:=fun v v' e=>by
 rw[Bool.eq_iff_iff,has_iff,has_iff]
 constructor
 ·rintro⟨r,hr,h1,h2⟩
  have:=e r (h r hr)
  simp only[inR]at this
  rw[decide_eq_true h1,decide_eq_true h2]at this
  have h3:=this.symm
  simp only[Bool.and_self,Bool.and_eq_true,decide_eq_true_eq]at h3
  exact⟨r,hr,h3⟩
 ·rintro⟨r,hr,h1,h2⟩
  have:=e r (h r hr)
  simp only[inR]at this
  rw[decide_eq_true h1,decide_eq_true h2]at this
  simp only[Bool.and_self,Bool.and_eq_true,decide_eq_true_eq]at this
  exact⟨r,hr,this⟩
theorem RespR.has{rs out:List Rg}(h:RespR t i rs)(ho:∀v,has out v=has rs v):RespR t i out:=fun v v' e=>by rw[ho,ho,h v v' e]
theorem Resp.nil:Resp t i []:=fun _ _ _ _ _=>rfl
theorem Resp.any{l:List Bx}(h:∀b,b∈l->∀q q',InP q->InP q'->PEq t i q q'->inK q 5 b=inK q' 5 b):Resp t i l:=fun q q' hq hq' e=>by
 rw[Bool.eq_iff_iff,memK_iff,memK_iff]
 constructor
 ·rintro⟨b,hb,h1⟩;exact⟨b,hb,by rw[<-h b hb q q' hq hq' e];exact h1⟩
 ·rintro⟨b,hb,h1⟩;exact⟨b,hb,by rw[h b hb q q' hq hq' e];exact h1⟩
theorem makeGo_eq{p:Nat->Int}(hp:InP p):∀(l s:List Bx),(makeGo s l).2=0->memK p 5 (makeGo s l).1=(memK p 5 s||memK p 5 (vldB l))
 |[],s,_=>by rw[makeGo];simp[vldB,memK_nil]
 |b::l,s,h=>by
  rw[makeGo]at h⊢
  rw[vldB_cons]
  split at h
  ·rename_i ho
   rw[if_pos ho,if_pos ho]
   split at h
   ·cases h
   ·rename_i hl
    rw[if_neg hl,makeGo_eq hp l _ h,addO,cano_mem orB hp 5 _ _ (Nat.le_refl _)]
    have e:memK p 5 [b]=inK p 5 b:=by simp[memK]
    have e2:memK p 5 (b::vldB l)=(inK p 5 b||memK p 5 (vldB l)):=rfl
    rw[e,e2,orB,Bool.or_assoc]
  ·rename_i ho
   rw[if_neg ho,if_neg ho]
   exact makeGo_eq hp l s h
theorem makeGo_err:∀(l s:List Bx),(makeGo s l).2≠0->(makeGo s l).1=[]
 |[],s,h=>absurd rfl h
 |b::l,s,h=>by
  rw[makeGo]at h⊢
  split at h
  ·rename_i ho
   rw[if_pos ho]
   split at h
   ·rename_i hl;rw[if_pos hl]
   ·rename_i hl;rw[if_neg hl];exact makeGo_err l _ h
  ·rename_i ho
   rw[if_neg ho];exact makeGo_err l s h
theorem Resp.make{l:List Bx}(h:Resp t i (vldB l)):Resp t i (makeP l).1:=fun q q' hq hq' e=>by
 by_cases he:(makeP l).2=0
 ·rw[makeP,makeGo_eq hq l [] he,makeGo_eq hq' l [] he,memK_nil,memK_nil,h q q' hq hq' e]
 ·rw[makeP,makeGo_err l [] he,memK_nil,memK_nil]
theorem Resp.giv{l:List Bx}(h:Resp t i (vldB l)):Resp t i (givP l).1:=by
 unfold givP
 split
 ·rename_i hs
  rw[vld_all (okL_set hs)]at h;exact h
 ·exact h.make
theorem Resp.giv_set{l:List Bx}(hs:setB l=true)(h:Resp t i l):Resp t i (givP l).1:=by
 rw[givP,if_pos hs];exact h
theorem Resp.combG{op:Bool->Bool->Bool}{a b:List Bx}(ha:Resp t i (givP a).1)(hb:Resp t i (givP b).1):Resp t i (combP op a b).1:=by
 unfold combP
 split
 ·exact Resp.nil
 ·split
  ·exact Resp.nil
  ·simp only[limP]
   split
   ·exact Resp.nil
   ·intro q q' hq hq' e
    rw[cano_mem op hq 5 _ _ (Nat.le_refl _),cano_mem op hq' 5 _ _ (Nat.le_refl _),ha q q' hq hq' e,hb q q' hq hq' e]
theorem Resp.comb{op:Bool->Bool->Bool}{a b:List Bx}(ha:Resp t i a)(hb:Resp t i b)(sa:setB a=true)(sb:setB b=true):Resp t i (combP op a b).1:=Resp.combG (ha.giv_set sa) (hb.giv_set sb)
theorem Resp.vld{l:List Bx}(h:∀b,b∈l->∀q q',InP q->InP q'->PEq t i q q'->inK q 5 b=inK q' 5 b):Resp t i (vldB l):=Resp.any fun b hb=>h b (List.mem_filter.1 hb).1
theorem Resp.init:Resp t i initS:=Resp.any fun b hb q q' _ _ e=>e.v b (List.mem_append_left _ hb)
theorem Resp.hdr{y:It}(h:∃d,d∈i.svcs/\y∈d.items):Resp t i (combP anB initS [hdrX y]).1:=by
 obtain⟨d,hd,hy⟩:=h
 refine Resp.combG (Resp.init.giv_set init_set) (Resp.giv (Resp.vld fun b hb q q' _ _ e=>?_))
 rw[List.mem_singleton.1 hb]
 exact e.v _ (List.mem_append_right _ (List.mem_flatMap.2 ⟨d,hd,List.mem_map.2 ⟨y,hy,rfl⟩⟩))
def btwX(r s:Rg):Bx:=⟨r,s,fullB.r2,fullB.r3,fullB.r4⟩
theorem inK_btw{r s:Rg}{q:Nat->Int}(hq:InP q):inK q 5 (btwX r s)=(inR r (q 0)&&inR s (q 1)):=by
 have h2:=hq 2;have h3:=hq 3;have h4:=hq 4
 have e2:fullB.r2.lo=0/\fullB.r2.hi=255:=by decide
 have e3:fullB.r3.lo=0/\fullB.r3.hi=65535:=by decide
 have e4:fullB.r4.lo=0/\fullB.r4.hi=65535:=by decide
 have t2:topF 2=255:=rfl
 have t3:topF 3=65535:=rfl
 have t4:topF 4=65535:=rfl
 simp only[inK,inR,Bx.get,btwX,Nat.sub_self,Nat.reduceSub,Bool.and_true]
 rw[show decide (fullB.r2.lo<=q 2)=true from decide_eq_true (by omega),show decide (q 2<=fullB.r2.hi)=true from decide_eq_true (by omega),show decide (fullB.r3.lo<=q 3)=true from decide_eq_true (by omega),show decide (q 3<=fullB.r3.hi)=true from decide_eq_true (by omega),show decide (fullB.r4.lo<=q 4)=true from decide_eq_true (by omega),show decide (q 4<=fullB.r4.hi)=true from decide_eq_true (by omega)]
 simp
def btwB(a b:List Rg):List Bx:=a.flatMap fun r=>b.map fun s=>btwX r s
theorem vld_btw{a b:List Rg}{q:Nat->Int}(hq:InP q):memK q 5 (vldB (btwB a b))=(has a (q 0)&&has b (q 1)):=by
 rw[Bool.eq_iff_iff,memK_iff,Bool.and_eq_true,has_iff,has_iff]
 have hx:∀r s,inK q 5 (btwX r s)=true↔(r.lo<=q 0/\q 0<=r.hi)/\(s.lo<=q 1/\q 1<=s.hi):=fun r s=>by
  rw[inK_btw hq];simp[inR]
 constructor
 ·rintro⟨x,hx1,hx2⟩
  obtain⟨r,hr,hx3⟩:=List.mem_flatMap.1 (List.mem_filter.1 hx1).1
  obtain⟨s,hs,rfl⟩:=List.mem_map.1 hx3
  have:=(hx r s).1 hx2
  exact⟨⟨r,hr,this.1⟩,⟨s,hs,this.2⟩⟩
 ·rintro⟨⟨r,hr,h1⟩,⟨s,hs,h2⟩⟩
  have h3:=(hx r s).2 ⟨h1,h2⟩
  refine⟨btwX r s,List.mem_filter.2 ⟨List.mem_flatMap.2 ⟨r,hr,List.mem_map.2 ⟨s,hs,rfl⟩⟩,?_⟩,h3⟩
  have hr1:=r.h1;have hs1:=s.h1
  refine decide_eq_true ⟨⟨by show r.lo<=r.hi;omega,hr1⟩,⟨by show s.lo<=s.hi;omega,hs1⟩,(show fullB.r2.lo<=fullB.r2.hi/\fullB.r2.hi<=255 by decide),(show fullB.r3.lo<=fullB.r3.hi/\fullB.r3.hi<=65535 by decide),(show fullB.r4.lo<=fullB.r4.hi/\fullB.r4.hi<=65535 by decide)⟩
theorem Resp.btw{a b:List Rg}(ha:RespR t i a)(hb:RespR t i b):Resp t i (makeP (btwB a b)).1:=Resp.make fun q q' hq hq' e=>by
 rw[vld_btw hq,vld_btw hq',ha _ _ e.s,hb _ _ e.d]
theorem Resp.real:Resp t i (realP t).1:=by
 unfold realP
 split
 ·exact Resp.nil
 ·refine Resp.combG (Resp.giv_set (setB_makeP _) (Resp.make (Resp.vld fun b hb q q' hq hq' e=>?_))) (Resp.init.giv_set init_set)
  obtain⟨k,j,x,y,_,hx,hy,rfl⟩:=mem_pairsB hb
  have e1:=e.s x.pf.rg (List.mem_append_left _ (List.mem_map.2 ⟨x,List.mem_of_getElem? hx,rfl⟩))
  have e2:=e.d y.pf.rg (List.mem_append_left _ (List.mem_map.2 ⟨y,List.mem_of_getElem? hy,rfl⟩))
  have hw:whoB x.pf y.pf=btwX x.pf.rg y.pf.rg:=rfl
  rw[hw,inK_btw hq,inK_btw hq',e1,e2]
end
noncomputable abbrev vN(n:Nat):AV:=.v (.int .i64 (n:Int))
theorem chZone(t:Tp)(s:ByteArray)(hl:t.edges.length<=5){K:KT}(hK:∀l:List Nat,l.length<=5->(∀n,n∈l->n<t.edges.length)->K (.lst (l.map vN)) []):ACall Tryz.prog 173 [encT t,.v (.string s)] [] K:=by
 refine ofh11Zone rfl rfl ?_
 (repeat' ((conv=>whnf);first|refine zG ?_|apply zA|(apply zI;intro h)|exact zT));(all_goals conv=>whnf)
 refine Lp.intro (Nat×List Nat) (fun g=>⟨2,[(0,boxT t),(1,.arr 1 (g.2.map vN))],[(1,.v (.string s)),(2,.op 0 0),(5,.os 1 1 0 g.2.length),(6,.v (.int .i64 g.1))]⟩)
  (fun g=>g.1<=t.edges.length/\g.2.length<=g.1/\∀n,n∈g.2->n<t.edges.length) (fun g=>t.edges.length-g.1) (0,[]) ⟨Nat.zero_le _,Nat.le_refl _,fun n h=>by simp at h⟩ ?_ ?_
 ·(exact leA)
 rintro⟨i,l⟩ ⟨h1,h2,h3⟩
 simp only at h1 h2 h3⊢
 rcases Nat.lt_or_ge i t.edges.length with hil|hil
 ·obtain⟨x,hx⟩:=gex hil
  (repeat' ((conv=>whnf);first|(with_reducible first|refine in_map hil ?_|refine ix_map hx ?_)|refine zG ?_|apply zA|(apply zI;intro h)|exact zT));(all_goals conv=>whnf)
  all_goals first
   |(refine⟨(i+1,l),⟨hil,by simp only;omega,h3⟩,by simp only;omega,?_⟩
     rw[show(((i+1,l):Nat×List Nat).1:Int)=(i:Int)+1 from by simp only;omega]
     (exact leA)
     done)
   |(refine⟨(i+1,l++[i]),⟨hil,by simp only[List.length_append,List.length_cons,List.length_nil];omega,fun n hn=>by
      rcases List.mem_append.1 hn with hn|hn
      ·exact h3 n hn
      ·rw[List.mem_singleton.1 hn];exact hil⟩,by simp only;omega,?_⟩
     simp only[List.map_append,List.length_append,List.map_cons,List.map_nil,List.length_cons,List.length_nil,Int.natCast_add,Int.natCast_one]
     (exact leA)
     done)
   |trace_state
 ·(repeat' ((conv=>whnf);first|(with_reducible refine sl_full (List.length_map ..) ?_)|refine zG ?_|apply zA|(apply zI;intro h)|exact zT));(all_goals conv=>whnf)
  exact hK l (by omega) h3
theorem chHas(l:List Nat)(n:Nat)(hl:l.length<=1000000){K:KT}(hK:K (.sb (decide (n∈l))) []):ACall Tryz.prog 218 [.lst (l.map vN),.v (.int .i64 n)] [] K:=by
 refine ACall.bool (ofh17Has rfl rfl ?_)
 (repeat' ((conv=>whnf);first|refine zG ?_|apply zA|(apply zI;intro h)|exact zT));(all_goals conv=>whnf)
 refine Lp.intro Nat (fun i=>⟨0,[],[(0,.lst (l.map vN)),(1,.v (.int .i64 n)),(5,.v (.int .i64 i))]⟩) (fun i=>i<=l.length/\∀(k:Nat) x,k<i->l[k]? =some x->¬x=n) (fun i=>l.length-i) 0 ⟨Nat.zero_le _,fun k x h=>absurd h (Nat.not_lt_zero _)⟩ ?_ ?_
 ·(exact leA)
 intro i ⟨hi,hin⟩
 rcases Nat.lt_or_ge i l.length with hil|hil
 ·obtain⟨x,hx⟩:=gex hil
  (repeat' ((conv=>whnf);first|(with_reducible first|refine in_map hil ?_|refine ix_map hx ?_)|refine zG ?_|apply zA|(apply zI;intro h)|exact zT));(all_goals conv=>whnf)
  all_goals first
   |exact fin_t hK (decide_eq_true (by rw[show n=x by omega];exact List.mem_of_getElem? hx))
   |(refine⟨i+1,⟨hil,all_succ hx (by omega) hin⟩,by omega,?_⟩
     rw[Int.natCast_add,Int.natCast_one]
     (exact leA)
     done)
   |trace_state
 ·(repeat' ((conv=>whnf);first|refine zG ?_|apply zA|(apply zI;intro h)|exact zT));(all_goals conv=>whnf)
  refine fin_f hK (decide_eq_false fun hm=>?_)
  obtain⟨k,hk⟩:=List.mem_iff_getElem?.1 hm
  exact before_all hil hin k n hk rfl
theorem chEdg(t:Tp)(l:List Nat)(hl:l.length<=5)(hb:∀n,n∈l->n<t.edges.length){K:KT}(hK:∀rs:List Rg,rs.length<=5->(∀r,r∈rs->∃e,e∈t.edges/\r=e.pf.rg)->K (encRs rs) []):ACall Tryz.prog 170 [encT t,.lst (l.map vN)] [] K:=by
 refine ofh17Edg rfl rfl ?_
 (repeat' ((conv=>whnf);first|refine zG ?_|apply zA|(apply zI;intro h)|exact zT));(all_goals conv=>whnf)
 refine Lp.intro (Nat×List Rg) (fun g=>⟨2,[(0,boxT t),(1,.arr 2 (g.2.map encR))],[(1,.lst (l.map vN)),(2,.op 0 0),(5,.os 1 2 0 g.2.length),(6,.v (.int .i64 g.1))]⟩)
  (fun g=>g.1<=l.length/\g.2.length=g.1/\∀r,r∈g.2->∃e,e∈t.edges/\r=e.pf.rg) (fun g=>l.length-g.1) (0,[]) ⟨Nat.zero_le _,rfl,fun r h=>by simp at h⟩ ?_ ?_
 ·(exact leA)
 rintro⟨i,out⟩ ⟨h1,h2,h3⟩
 simp only at h1 h2 h3⊢
 rcases Nat.lt_or_ge i l.length with hil|hil
 ·obtain⟨n,hn⟩:=gex hil
  have hnl:=hb n (List.mem_of_getElem? hn)
  obtain⟨x,hx⟩:=gex hnl
  (repeat' ((conv=>whnf);first|(with_reducible first|refine in_map hil ?_|refine ix_map hn ?_|refine in_map hnl ?_|refine ix_map hx ?_|refine crOf _ ?_)|refine zG ?_|apply zA|(apply zI;intro h)|exact zT));(all_goals conv=>whnf)
  all_goals first
   |(refine⟨(i+1,out++[x.pf.rg]),⟨hil,by simp only[List.length_append,List.length_cons,List.length_nil];omega,fun r hr=>by
      rcases List.mem_append.1 hr with hr|hr
      ·exact h3 r hr
      ·exact⟨x,List.mem_of_getElem? hx,List.mem_singleton.1 hr⟩⟩,by simp only;omega,?_⟩
     simp only[List.map_append,List.length_append,List.map_cons,List.map_nil,List.length_cons,List.length_nil,Int.natCast_add,Int.natCast_one]
     (exact leA)
     done)
   |trace_state
 ·(repeat' ((conv=>whnf);first|(with_reducible refine sl_full (List.length_map ..) ?_)|refine zG ?_|apply zA|(apply zI;intro h)|exact zT));(all_goals conv=>whnf)
  exact hK out (by omega) h3
theorem chAll(t:Tp)(hl:t.edges.length<=5){K:KT}(hK:∀l:List Nat,l.length<=5->(∀n,n∈l->n<t.edges.length)->K (.lst (l.map vN)) []):ACall Tryz.prog 171 [encT t] [] K:=by
 refine ofh17All rfl rfl ?_
 (repeat' ((conv=>whnf);first|refine zG ?_|apply zA|(apply zI;intro h)|exact zT));(all_goals conv=>whnf)
 refine Lp.intro (Nat×List Nat) (fun g=>⟨2,[(0,boxT t),(1,.arr 1 (g.2.map vN))],[(1,.op 0 0),(3,.os 1 1 0 g.2.length),(4,.v (.int .i64 g.1))]⟩)
  (fun g=>g.1<=t.edges.length/\g.2.length<=g.1/\∀n,n∈g.2->n<t.edges.length) (fun g=>t.edges.length-g.1) (0,[]) ⟨Nat.zero_le _,Nat.le_refl _,fun n h=>by simp at h⟩ ?_ ?_
 ·(exact leA)
 rintro⟨i,l⟩ ⟨h1,h2,h3⟩
 simp only at h1 h2 h3⊢
 rcases Nat.lt_or_ge i t.edges.length with hil|hil
 ·(repeat' ((conv=>whnf);first|refine zG ?_|apply zA|(apply zI;intro h)|exact zT));(all_goals conv=>whnf)
  refine⟨(i+1,l++[i]),⟨hil,by simp only[List.length_append,List.length_cons,List.length_nil];omega,fun n hn=>by
    rcases List.mem_append.1 hn with hn|hn
    ·exact h3 n hn
    ·rw[List.mem_singleton.1 hn];exact hil⟩,by simp only;omega,?_⟩
  simp only[List.map_append,List.length_append,List.map_cons,List.map_nil,List.length_cons,List.length_nil,Int.natCast_add,Int.natCast_one]
  (exact leA)
 ·(repeat' ((conv=>whnf);first|(with_reducible refine sl_full (List.length_map ..) ?_)|refine zG ?_|apply zA|(apply zI;intro h)|exact zT));(all_goals conv=>whnf)
  exact hK l (by omega) h3
theorem wr_u32_eq{p:Int}{K:Int->Prop}(h:K (wu p)):Wr .u32 p K:=Wr.intro rfl h
theorem chHdr(x:It){K:KT}(hK:K (encXs (combP anB initS [hdrX x]).1) []):ACall Tryz.prog 174 [encIt x] [] K:=by
 have hq:∀{K:KT},K (.tup [encXs (combP anB initS [hdrX x]).1,.v (.int .i64 (combP anB initS [hdrX x]).2)]) []->ACall Tryz.prog 39 [encXs initS,.lst [.agg [.v (.int .u32 fullB.r0.lo),.v (.int .u32 fullB.r0.hi),.v (.int .u32 fullB.r1.lo),.v (.int .u32 fullB.r1.hi),.v (.int .u32 (wu x.proto)),.v (.int .u32 (wu x.proto)),.v (.int .u32 fullB.r3.lo),.v (.int .u32 fullB.r3.hi),.v (.int .u32 x.ports.lo),.v (.int .u32 x.ports.hi)]]] [] K:=fun {K} h=>@cr4Int initS [hdrX x] (by decide) (by simp) K h
 refine ofh17Hdr rfl rfl ?_
 (repeat' ((conv=>whnf);first|(with_reducible refine cr3Full ?_)|(refine in_c (by decide) ?_)|(with_reducible first|refine wr_u32_eq ?_|refine cr4Init ?_)|(refine sl_full (by rfl) ?_)|(with_reducible refine hq ?_)|refine zG ?_|apply zA|(apply zI;intro h)|exact zT));(all_goals conv=>whnf)
 all_goals exact hK
def nmLB(b:UInt8):Bool:=Nat.ble 97 b.toNat&&Nat.ble b.toNat 122
def nmCB(b:UInt8):Bool:=nmLB b||(Nat.ble 48 b.toNat&&Nat.ble b.toNat 57)||Nat.beq b.toNat 45||Nat.beq b.toNat 95
def nmChk(l:List UInt8):Bool:=match l with
 |[]=>false
 |a::r=>nmLB a&&(r.all nmCB&&(Nat.ble r.length 23&& !(l==[97,110,121])))
theorem nmLB_spec{b:UInt8}(h:nmLB b=true):nmL (b.toNat:Int):=by
 simp only[nmLB,Bool.and_eq_true]at h
 have h1:=Nat.le_of_ble_eq_true h.1;have h2:=Nat.le_of_ble_eq_true h.2
 unfold nmL;omega
theorem nmCB_spec{b:UInt8}(h:nmCB b=true):nmC (b.toNat:Int):=by
 simp only[nmCB,Bool.or_eq_true,Bool.and_eq_true]at h
 unfold nmC
 rcases h with((h|⟨h1,h2⟩)|h)|h
 ·have:=nmLB_spec h;unfold nmL at this;omega
 ·have h1:=Nat.le_of_ble_eq_true h1;have h2:=Nat.le_of_ble_eq_true h2;omega
 ·have:=Nat.eq_of_beq_eq_true h;omega
 ·have:=Nat.eq_of_beq_eq_true h;omega
theorem nameOk_lit(l:List UInt8)(h:nmChk l=true):nameOk ⟨⟨l⟩⟩:=by
 cases l with
 |nil=>cases h
 |cons a r=>
  simp only[nmChk,Bool.and_eq_true,List.all_eq_true,Bool.not_eq_true']at h
  obtain⟨h1,h2,h3,h4⟩:=h
  have h3:=Nat.le_of_ble_eq_true h3
  have hget:∀(i:Nat) b,(⟨⟨a::r⟩⟩:ByteArray)[i]? =some b->(a::r)[i]? =some b:=by
   intro i b hb
   by_cases h:i<(⟨⟨a::r⟩⟩:ByteArray).size
   ·rw[getElem?_pos _ i h]at hb
    have h':i<(a::r).length:=h
    rw[List.getElem?_eq_getElem h']
    exact hb
   ·rw[getElem?_neg _ i h]at hb;cases hb
  refine⟨?_,?_,?_,fun b hb=>?_,fun i b hb=>?_⟩
  ·rw[ByteArray.toList_eq,ByteArray.toList_eq];rfl
  ·show(((a::r).length:Nat):Int)<=24
   simp;omega
  ·rw[ByteArray.toList_eq,ByteArray.toList_eq]
   exact h4
  ·have:=hget 0 b hb
   simp at this;subst this
   exact nmLB_spec h1
  ·have:=hget i b hb
   cases i with
   |zero=>simp at this;subst this;exact nmCB_spec (by simp[nmCB,h1])
   |succ i=>exact nmCB_spec (h2 b (List.mem_of_getElem? (by simpa using this)))
structure GPe (n i:Nat) (e:Ed):Prop where
 name:e.name=enL.getD i default
 d0:0<=e.dev
 d1:e.dev<n
 zone:e.zone∈zoL
 pf:(e.pl=false/\e.pf=subL.getD i noPf)\/(e.pl=true/\e.pf.addr=0/\e.pf.bits∈[24,23,25,22,26,32,30])
structure GPla (t:Tp):Prop where
 d1:1<=t.devs.length
 d6:t.devs.length<=6
 dv:∀(i:Nat) d,t.devs[i]? =some d->GDv i d
 l9:t.links.length<=8
 lk:∀l,l∈t.links->GLk t.devs.length l
 e5:t.edges.length<=5
 ed:∀(i:Nat) e,t.edges[i]? =some e->GPe t.devs.length i e
 pools:t.pools=[pool1]\/t.pools=[pool2]\/t.pools=[pool1,pool2]
 tol:t.tol∈[0,1,0,1,2]
theorem sEq_data(a b:ByteArray):sEq a b=(a.data.toList==b.data.toList):=by rw[sEq,ByteArray.toList_eq,ByteArray.toList_eq]
theorem nameOk_data{s:ByteArray}(h:nmChk s.data.toList=true):nameOk s:=by
 obtain⟨⟨l⟩⟩:=s
 exact nameOk_lit l h
theorem rn_ok{i:Nat}(h:i<6):nameOk (rnL.getD i default):=nameOk_data (by
 have:∀i:Fin 6,nmChk (rnL.getD i.val default).data.toList=true:=by decide
 exact this ⟨i,h⟩)
theorem rn_ne{i j:Nat}(h:i<6)(hj:j<i):sEq (rnL.getD j default) (rnL.getD i default)=false:=by
 have:∀i j:Fin 6,j.val<i.val->((rnL.getD j.val default).data.toList==(rnL.getD i.val default).data.toList)=false:=by decide
 rw[sEq_data];exact this ⟨i,h⟩ ⟨j,by omega⟩ hj
theorem en_ok{i:Nat}(h:i<5):nameOk (enL.getD i default):=nameOk_data (by
 have:∀i:Fin 5,nmChk (enL.getD i.val default).data.toList=true:=by decide
 exact this ⟨i,h⟩)
theorem en_ne{i j:Nat}(h:i<5)(hj:j<i):sEq (enL.getD j default) (enL.getD i default)=false:=by
 have:∀i j:Fin 5,j.val<i.val->((enL.getD j.val default).data.toList==(enL.getD i.val default).data.toList)=false:=by decide
 rw[sEq_data];exact this ⟨i,h⟩ ⟨j,by omega⟩ hj
theorem sEq_refl(a:ByteArray):sEq a a=true:=by rw[sEq_data];simp
theorem zo_ok{s:ByteArray}(h:s∈zoL):nameOk s:=nameOk_data (by
 have:∀s,s∈zoL->nmChk s.data.toList=true:=by
  intro s hs
  simp only[zoL,List.mem_cons,List.not_mem_nil,or_false]at hs
  rcases hs with rfl|rfl|rfl<;>decide
 exact this s h)
theorem cl_ok{s:ByteArray}(h:s∈clL):sEq s ⟨#[]⟩=true\/nameOk s:=by
 simp only[clL,List.mem_cons,List.not_mem_nil,or_false]at h
 rcases h with rfl|rfl|rfl
 ·exact .inl (sEq_refl _)
 ·exact .inr (nameOk_data (by decide))
 ·exact .inr (nameOk_data (by decide))
theorem sub_ok{i:Nat}(h:i<5):(subL.getD i noPf).okP/\1<=(subL.getD i noPf).bits:=by
 have:∀i:Fin 5,(subL.getD i.val noPf).okP/\1<=(subL.getD i.val noPf).bits:=by decide
 exact this ⟨i,h⟩
theorem sub_apart{i j:Nat}(h:i<5)(hj:j<i):(subL.getD i noPf).meet (subL.getD j noPf)=false:=by
 have:∀i j:Fin 5,j.val<i.val->(subL.getD i.val noPf).meet (subL.getD j.val noPf)=false:=by decide
 exact this ⟨i,h⟩ ⟨j,by omega⟩ hj
theorem plan_bits{b:Int}(h:b∈[(24:Int),23,25,22,26,32,30]):22<=b/\b<=32:=by
 simp only[List.mem_cons,List.not_mem_nil,or_false]at h
 omega
theorem topOk_pla{t:Tp}(g:GPla t):TopOk t:=by
 have hd6:=g.d6;have he5:=g.e5;have hl9:=g.l9
 have htol:=g.tol
 simp only[List.mem_cons,List.not_mem_nil,or_false]at htol
 refine⟨g.d1,by omega,by omega,by omega,by rcases g.pools with h|h|h<;>rw[h]<;>decide,by omega,by omega,fun i d hi=>?_,fun i l hi=>?_,fun i e hi=>?_,fun i e hi j o hj ho=>?_,fun i p hi=>?_⟩
 ·have hlt:=(List.getElem?_eq_some_iff.1 hi).1
  obtain⟨h1,h2,h3⟩:=g.dv i d hi
  simp only[List.mem_cons,List.not_mem_nil,or_false]at h2
  refine⟨⟨by rw[h1];exact rn_ok (by omega),by omega,by omega,cl_ok h3⟩,?_⟩
  refine firstIx_at hi (sEq_refl _) fun j y hj hy=>?_
  rw[(g.dv j y hy).name,h1]
  exact rn_ne (by omega) hj
 ·obtain⟨h1,h2,h3,h4⟩:=g.lk l (List.mem_of_getElem? hi)
  simp only[List.mem_cons,List.not_mem_nil,or_false]at h4
  exact⟨h1,h2,h3,by omega,by omega⟩
 ·have hlt:=(List.getElem?_eq_some_iff.1 hi).1
  obtain⟨h1,h2,h3,h4,h5⟩:=g.ed i e hi
  refine⟨⟨by rw[h1];exact en_ok (by omega),zo_ok h4,h2,h3,?_⟩,?_⟩
  ·rcases h5 with⟨p1,p2⟩|⟨p1,p2,p3⟩
   ·have:=sub_ok (i:=i) (by omega)
    rw[p2];exact⟨this.2,this.1,.inl p1⟩
   ·have:=plan_bits p3
    refine⟨by omega,⟨by omega,by omega,by rw[p2];exact Int.zero_emod _⟩,.inr p2⟩
  ·refine firstIx_at hi (sEq_refl _) fun j y hj hy=>?_
   rw[(g.ed j y hy).name,h1]
   exact en_ne (by omega) hj
 ·rintro⟨q1,q2,q3⟩
  have hlt:=(List.getElem?_eq_some_iff.1 hi).1
  rcases(g.ed i e hi).pf with⟨_,p2⟩|⟨p1,_⟩
  ·rcases(g.ed j o ho).pf with⟨_,r2⟩|⟨r1,_⟩
   ·rw[p2,r2,sub_apart (by omega) hj]at q3;cases q3
   ·rw[r1]at q2;cases q2
  ·rw[p1]at q1;cases q1
 ·rcases g.pools with h|h|h<;>rw[h]at hi⊢
  ·match i,hi with
   |0,hi=>simp at hi;subst hi;exact⟨by decide,fun j q hj=>absurd hj (Nat.not_lt_zero _)⟩
   |i+1,hi=>simp at hi
  ·match i,hi with
   |0,hi=>simp at hi;subst hi;exact⟨by decide,fun j q hj=>absurd hj (Nat.not_lt_zero _)⟩
   |i+1,hi=>simp at hi
  ·match i,hi with
   |0,hi=>simp at hi;subst hi;exact⟨by decide,fun j q hj=>absurd hj (Nat.not_lt_zero _)⟩
   |1,hi=>
    simp at hi;subst hi
    refine⟨by decide,fun j q hj hq=>?_⟩
    have:j=0:=by omega
    subst this
    simp at hq;subst hq
    decide
   |i+2,hi=>simp at hi
theorem topOk_top{t:Tp}(g:GTop t):TopOk t:=by
 have h:GPla {t with pools:=[pool1]}:=⟨g.d1,g.d6,g.dv,g.l9,g.lk,g.e5,fun i e hi=>by
  obtain⟨h1,h2,h3,h4,h5,h6⟩:=g.ed i e hi
  exact⟨h1,h2,h3,h4,.inl ⟨h6,h5⟩⟩,.inl rfl,g.tol⟩
 have k:=topOk_pla h
 rcases g.pools with hp|hp|hp|hp
 ·exact⟨k.d0,k.d1,k.l1,k.e1,by rw[hp];decide,k.t0,k.t1,k.dev,k.link,k.edge,k.apart,fun i p hi=>by rw[hp]at hi;cases hi⟩
 all_goals exact topOk_pla ⟨g.d1,g.d6,g.dv,g.l9,g.lk,g.e5,h.ed,by simp[hp],g.tol⟩
theorem comp_top{t:Tp}(g:GTop t):compB t=true:=by
 simp only[compB,topB_true (topOk_top g),Bool.true_and,Bool.not_eq_true']
 rw[List.any_eq_false]
 intro e he
 obtain⟨i,hi⟩:=List.mem_iff_getElem?.1 he
 rw[(g.ed i e hi).pl];decide
def pfA:Pf:=⟨167772160,24,by decide,by decide⟩
def pfB:Pf:=⟨2886729728,16,by decide,by decide⟩
def netT(a b:Int):Tp:=⟨[⟨⟨#[114]⟩,a,false,false,⟨#[]⟩⟩,⟨⟨#[115]⟩,b,false,false,⟨#[]⟩⟩],[⟨0,1,1⟩],[⟨⟨#[97]⟩,0,⟨#[108,97,110]⟩,pfA,false⟩,⟨⟨#[98]⟩,1,⟨#[100,109,122]⟩,pfB,false⟩],[],0⟩
theorem topOk_net{a b:Int}(a0:0<=a)(a1:a<=4096)(b0:0<=b)(b1:b<=4096):TopOk (netT a b):=by
 refine⟨by simp[netT],by simp[netT],by simp[netT],by simp[netT],by simp[netT],by simp[netT],by simp[netT],?_,?_,?_,?_,?_⟩
 ·intro i d hi
  match i,hi with
  |0,hi=>
   simp[netT]at hi;subst hi
   exact⟨⟨nameOk_data (s:=⟨#[114]⟩) (by decide),a0,a1,.inl (sEq_refl _)⟩,firstIx_at (k:=0) rfl (sEq_refl _) (fun j y hj=>absurd hj (Nat.not_lt_zero _))⟩
  |1,hi=>
   simp[netT]at hi;subst hi
   refine⟨⟨nameOk_data (s:=⟨#[115]⟩) (by decide),b0,b1,.inl (sEq_refl _)⟩,firstIx_at (k:=1) rfl (sEq_refl _) (fun j y hj hy=>?_)⟩
   obtain rfl:j=0:=by omega
   simp[netT]at hy;subst hy
   rw[sEq_data];rfl
  |i+2,hi=>simp[netT]at hi
 ·intro i l hi
  match i,hi with
  |0,hi=>simp[netT]at hi;subst hi;simp[linkOk,netT]
  |i+1,hi=>simp[netT]at hi
 ·intro i e hi
  match i,hi with
  |0,hi=>
   simp[netT]at hi;subst hi
   exact⟨⟨nameOk_data (by decide),nameOk_data (by decide),by decide,by simp[netT],by decide,by decide,by decide⟩,firstIx_at (k:=0) rfl (sEq_refl _) (fun j y hj=>absurd hj (Nat.not_lt_zero _))⟩
  |1,hi=>
   simp[netT]at hi;subst hi
   refine⟨⟨nameOk_data (by decide),nameOk_data (by decide),by decide,by simp[netT],by decide,by decide,by decide⟩,firstIx_at (k:=1) rfl (sEq_refl _) (fun j y hj hy=>?_)⟩
   obtain rfl:j=0:=by omega
   simp[netT]at hy;subst hy
   rw[sEq_data];rfl
  |i+2,hi=>simp[netT]at hi
 ·rintro i e hi j o hj ho ⟨_,_,h3⟩
  match i,hi,j,ho with
  |0,hi,j,ho=>omega
  |1,hi,0,ho=>simp[netT]at hi ho;subst hi;subst ho;revert h3;decide
  |1,hi,j+1,ho=>omega
  |i+2,hi,j,ho=>simp[netT]at hi
 ·intro i p hi
  simp[netT]at hi
theorem comp_net{a b:Int}(a0:0<=a)(a1:a<=4096)(b0:0<=b)(b1:b<=4096):compB (netT a b)=true:=by
 rw[compB,topB_true (topOk_net a0 a1 b0 b1)];rfl
def sanB(p:Int):Bx:=⟨mkR 167772160 167772415,mkR 2886729728 2886795263,mkR 6 6,mkR 0 65535,mkR p p⟩
def sanP:Pol:=⟨[sanB 80,sanB 443],[]⟩
theorem san_set:setB sanP.allow=true:=by decide+kernel
theorem san_sub(a b:Int):subB sanP.allow (pairsB (netT a b).edges)=true:=by
 have:subB sanP.allow (pairsB (netT 1 1).edges)=true:=by decide+kernel
 exact this
theorem san_init:subB sanP.allow initS=true:=by decide+kernel
theorem san_ab:combP anB sanP.allow [whoB pfA pfB]=([sanB 80,sanB 443],0):=by decide+kernel
theorem san_ba:combP anB sanP.allow [whoB pfB pfA]=([],0):=by decide+kernel
theorem polOk_san{a b:Int}(a0:0<=a)(a1:a<=4096)(b0:0<=b)(b1:b<=4096):PolOk (netT a b) sanP:=
 ⟨comp_net a0 a1 b0 b1,san_set,san_sub a b,san_init,fun n x h=>by simp[sanP]at h⟩
theorem pair_00{a b:Int}:pairP (netT a b) sanP (0:Nat) (0:Nat)=([],if compB (netT a b)=false then 1 else 0):=by
 unfold pairP;split<;>simp_all[netT]
theorem pair_11{a b:Int}:pairP (netT a b) sanP (1:Nat) (1:Nat)=([],if compB (netT a b)=false then 1 else 0):=by
 unfold pairP;split<;>simp_all[netT]
theorem pair_01{a b:Int}(h:compB (netT a b)=true):pairP (netT a b) sanP (0:Nat) (1:Nat)=([sanB 80,sanB 443],0):=by
 unfold pairP;rw[if_neg (by simp[h]),if_neg (by simp[netT]),if_neg (by decide)];exact san_ab
theorem pair_10{a b:Int}(h:compB (netT a b)=true):pairP (netT a b) sanP (1:Nat) (0:Nat)=([],0):=by
 unfold pairP;rw[if_neg (by simp[h]),if_neg (by simp[netT]),if_neg (by decide)];exact san_ba
def sanL(eg:Bool):Pl:=⟨0,1,eg,[sanB 80,sanB 443]⟩
theorem san_pairs{a b:Int}(h:compB (netT a b)=true):pairsOf (netT a b) sanP (idxI 2)=[sanL false]:=by
 rw[show idxI 2=[(0,0),(0,1),(1,0),(1,1)]from rfl]
 simp only[pairsOf,List.filterMap_cons,List.filterMap_nil,pair_00,pair_01 h,pair_10 h,pair_11]
 rfl
theorem san_err{a b:Int}(h:compB (netT a b)=true):errOf (netT a b) sanP (idxI 2)=0:=by
 rw[show idxI 2=[(0,0),(0,1),(1,0),(1,1)]from rfl]
 simp only[errOf,pair_00,pair_01 h,pair_10 h,pair_11,h]
 decide
theorem san_place{a b:Int}(a0:0<=a)(a1:a<=4096)(b0:0<=b)(b1:b<=4096):placeP (netT a b) sanP=match placeGo (netT a b) [sanL false] ([],[0,0])with
  |some s=>(s.1,0)
  |none=>([],9):=by
 have h:=comp_net a0 a1 b0 b1
 unfold placeP
 rw[polB_true (polOk_san a0 a1 b0 b1),if_neg (by decide),show(netT a b).edges.length=2 from rfl,san_err h,if_neg (by decide),san_pairs h]
 rfl
theorem san_1:placeP (netT 1 9) sanP=([sanL true],0):=by
 rw[san_place (by decide) (by decide) (by decide) (by decide),show placeGo (netT 1 9) [sanL false] ([],[0,0])=some ([sanL true],[1,2]) by kernel_rfl]
theorem san_2:placeP (netT 9 9) sanP=([sanL false],0):=by
 rw[san_place (by decide) (by decide) (by decide) (by decide),show placeGo (netT 9 9) [sanL false] ([],[0,0])=some ([sanL false],[2,1]) by kernel_rfl]
theorem san_3:placeP (netT 0 9) sanP=([],9):=by
 rw[san_place (by decide) (by decide) (by decide) (by decide),show placeGo (netT 0 9) [sanL false] ([],[0,0])=none by kernel_rfl]
theorem san_pls:plsB (netT 1 9) [sanL true]=true:=by
 refine plsB_true ⟨comp_net (by decide) (by decide) (by decide) (by decide),fun i x hi=>?_⟩
 match i,hi with
 |0,hi=>
  simp at hi;subst hi
  exact⟨by decide,by decide,by decide,by decide,by decide,by simp[sanL],san_set,fun k y h=>by omega,by decide+kernel⟩
 |i+1,hi=>simp at hi
theorem san_costs:costsP (netT 1 9) [sanL true]=[1,2]:=by
 rw[costsP,if_pos san_pls];decide+kernel
theorem san_who:wholeZ (netT 1 1) 0 1=whoB pfA pfB:=by
 rw[wholeZ,if_pos ⟨comp_net (by decide) (by decide) (by decide) (by decide),by decide,by decide⟩];rfl
noncomputable def gzEdge:Ctx:={N:=14}
noncomputable def bzEdge:Code:=bdy Tryz.f58
abbrev ofzEdge:=@ofC Tryz.prog gzEdge 58 Tryz.f58 bzEdge Tryz.func58 (by kernel_rfl) (by kernel_rfl) (by kernel_rfl) (by kernel_rfl)
noncomputable def gzWho:Ctx:={N:=48}
noncomputable def bzWho:Code:=bdy Tryz.f27
abbrev ofzWho:=@ofC Tryz.prog gzWho 27 Tryz.f27 bzWho Tryz.func27 (by kernel_rfl) (by kernel_rfl) (by kernel_rfl) (by kernel_rfl)
noncomputable def gzWith:Ctx:={N:=60,plan:=at1 1 (some (ln [1,3,5,7,9,11,13,15,17,19,21,23,25,27,29,31])) (at1 4 (some (ln [1,3,5,7,9,11,13,15,17,19,21,22,25,27,28])) (at1 5 (some (ln [1,3,5,7,9,11,13,15,19,21,23,25,27,29,16,30,33,35,36])) (fun _=>none))),cut:=at1 4 (true) (at1 5 (true) (fun _=>false))}
noncomputable def bzWith:Code:=bdy Tryz.f55
abbrev ofzWith:=@ofC Tryz.prog gzWith 55 Tryz.f55 bzWith Tryz.func55 (by kernel_rfl) (by kernel_rfl) (by kernel_rfl) (by kernel_rfl)
noncomputable def gzFits:Ctx:={N:=22,plan:=at1 4 (some (ln [1,3,5,7,9,11])) (fun _=>none)}
noncomputable def bzFits:Code:=bdy Tryz.f56
abbrev ofzFits:=@ofC Tryz.prog gzFits 56 Tryz.f56 bzFits Tryz.func56 (by kernel_rfl) (by kernel_rfl) (by kernel_rfl) (by kernel_rfl)
noncomputable def gzPlace:Ctx:={N:=87,plan:=at1 21 (some (.one 0 true (.one 1 true (.one 2 true (.one 3 true (.one 4 true (.one 5 true (.alt 6 (.one 7 false (.one 8 false (.done))) (.alt 7 (.one 6 false (.one 8 false (.done))) (.stop)))))))))) (at1 24 (some (ln [1,3,5,7,9,11,12,14])) (fun _=>none)),hints:=at1 4 ([.virt 6 4]) (fun _=>[])}
noncomputable def bzPlace:Code:=bdy Tryz.f21
abbrev ofzPlace:=@ofC Tryz.prog gzPlace 21 Tryz.f21 bzPlace Tryz.func21 (by kernel_rfl) (by kernel_rfl) (by kernel_rfl) (by kernel_rfl)
noncomputable def gzVal:Ctx:={N:=95,plan:=at1 8 (some (ln [1,3,5,7,9,11,13,15,17,19,21,23,25,27,29,31,33,35,37,39,41,43,45,47,49,51,53,55,57,59,61,63,65,67,69])) (at1 10 (some (ln [1,3,5,7,9,11,13,14,16,18,21])) (fun _=>none))}
noncomputable def bzVal:Code:=bdy Tryz.f23
abbrev ofzVal:=@ofC Tryz.prog gzVal 23 Tryz.f23 bzVal Tryz.func23 (by kernel_rfl) (by kernel_rfl) (by kernel_rfl) (by kernel_rfl)
noncomputable def gzCosts:Ctx:={N:=28,hints:=at1 9 ([.freeze 5]) (fun _=>[])}
noncomputable def bzCosts:Code:=bdy Tryz.f22
abbrev ofzCosts:=@ofC Tryz.prog gzCosts 22 Tryz.f22 bzCosts Tryz.func22 (by kernel_rfl) (by kernel_rfl) (by kernel_rfl) (by kernel_rfl)
noncomputable def gyWho:Ctx:={N:=32}
noncomputable def byWho:Code:=bdy Tryz.f102
abbrev ofyWho:=@ofC Tryz.prog gyWho 102 Tryz.f102 byWho Tryz.func102 (by kernel_rfl) (by kernel_rfl) (by kernel_rfl) (by kernel_rfl)
noncomputable def gyPairs:Ctx:={N:=31,hints:=at1 2 ([.virt 3 10]) (fun _=>[])}
noncomputable def byPairs:Code:=bdy Tryz.f98
abbrev ofyPairs:=@ofC Tryz.prog gyPairs 98 Tryz.f98 byPairs Tryz.func98 (by kernel_rfl) (by kernel_rfl) (by kernel_rfl) (by kernel_rfl)
noncomputable def gyPair:Ctx:={N:=49,plan:=at1 7 (some (ln [1,3,5,7,9,10,12,14,17,19,21,23])) (fun _=>none)}
noncomputable def byPair:Code:=bdy Tryz.f54
abbrev ofyPair:=@ofC Tryz.prog gyPair 54 Tryz.f54 byPair Tryz.func54 (by kernel_rfl) (by kernel_rfl) (by kernel_rfl) (by kernel_rfl)
noncomputable def gyVal:Ctx:={N:=109,plan:=at1 1 (some (ln [1,2,5,7,9,11,12,15,17,19,21,23,25,26,28,31,33,35,37,39,40,42,45,47])) (at1 6 (some (ln [1,3,4,7,9,11,13,15,17,19,21,23,25,27,29,31,33,35,37,39,41,43,45,47,49,51,53,55,57,58,61,63,65,67,69,71,73,74,77,79])) (fun _=>none)),cut:=at1 8 (true) (fun _=>false)}
noncomputable def byVal:Code:=bdy Tryz.f53
abbrev ofyVal:=@ofC Tryz.prog gyVal 53 Tryz.f53 byVal Tryz.func53 (by kernel_rfl) (by kernel_rfl) (by kernel_rfl) (by kernel_rfl)
noncomputable def gxInit:Ctx:={N:=28,own:=at1 140 (true) (fun _=>false),hints:=at1 2 ([.virtB 1 0 10]) (fun _=>[])}
noncomputable def bxInit:Code:=bdy Tryz.f99
abbrev ofxInit:=@ofC Tryz.prog gxInit 99 Tryz.f99 bxInit Tryz.func99 (by kernel_rfl) (by kernel_rfl) (by kernel_rfl) (by kernel_rfl)
noncomputable def gxInitC:Ctx:={N:=31,np:=2,out:=true}
noncomputable def bxInitC:Code:=bdy Tryz.f140
abbrev ofxInitC:=@ofC Tryz.prog gxInitC 140 Tryz.f140 bxInitC Tryz.func140 (by kernel_rfl) (by kernel_rfl) (by kernel_rfl) (by kernel_rfl)
noncomputable def gxEqB:Ctx:={N:=26,plan:=at1 6 (some (ln [1,3,5,7,9,11,13,15,17])) (fun _=>none)}
noncomputable def bxEqB:Code:=bdy Tryz.f158
abbrev ofxEqB:=@ofC Tryz.prog gxEqB 158 Tryz.f158 bxEqB Tryz.func158 (by kernel_rfl) (by kernel_rfl) (by kernel_rfl) (by kernel_rfl)
noncomputable def gxCan:Ctx:={N:=170,plan:=at1 13 (some (ln [1,3,5,7,9,11,13,15,17,19,21,23,25,26,28])) (at1 14 (some (ln [1,3,5,7,9,11,15,17,19,21,25,27,12,22,28,31,33,35,37,39])) (at1 19 (some (ln [1,3,5,7,9,11,13,15,17,19,21,23,25,27,29,31,33,35,37,39,41,43,45,46,49])) (fun _=>none))),hints:=at1 8 ([.virt 12 3]) (fun _=>[]),cut:=at1 7 (true) (fun _=>false)}
noncomputable def bxCan:Code:=bdy Tryz.f212
abbrev ofxCan:=@ofC Tryz.prog gxCan 212 Tryz.f212 bxCan Tryz.func212 (by kernel_rfl) (by kernel_rfl) (by kernel_rfl) (by kernel_rfl)
noncomputable def gxRests:Ctx:={N:=28,own:=at1 155 (true) (fun _=>false)}
noncomputable def bxRests:Code:=bdy Tryz.f157
abbrev ofxRests:=@ofC Tryz.prog gxRests 157 Tryz.f157 bxRests Tryz.func157 (by kernel_rfl) (by kernel_rfl) (by kernel_rfl) (by kernel_rfl)
noncomputable def gxComb:Ctx:={N:=20}
noncomputable def bxComb:Code:=bdy Tryz.f186
abbrev ofxComb:=@ofC Tryz.prog gxComb 186 Tryz.f186 bxComb Tryz.func186 (by kernel_rfl) (by kernel_rfl) (by kernel_rfl) (by kernel_rfl)
noncomputable def gxSet:Ctx:={N:=11}
noncomputable def bxSet:Code:=bdy Tryz.f185
abbrev ofxSet:=@ofC Tryz.prog gxSet 185 Tryz.f185 bxSet Tryz.func185 (by kernel_rfl) (by kernel_rfl) (by kernel_rfl) (by kernel_rfl)
noncomputable def gxOf:Ctx:={N:=33}
noncomputable def bxOf:Code:=bdy Tryz.f142
abbrev ofxOf:=@ofC Tryz.prog gxOf 142 Tryz.f142 bxOf Tryz.func142 (by kernel_rfl) (by kernel_rfl) (by kernel_rfl) (by kernel_rfl)
noncomputable def gxMake:Ctx:={N:=29,hints:=at1 2 ([.asL 4]) (fun _=>[])}
noncomputable def bxMake:Code:=bdy Tryz.f211
abbrev ofxMake:=@ofC Tryz.prog gxMake 211 Tryz.f211 bxMake Tryz.func211 (by kernel_rfl) (by kernel_rfl) (by kernel_rfl) (by kernel_rfl)
noncomputable def gxVald:Ctx:={N:=18}
noncomputable def bxVald:Code:=bdy Tryz.f59
abbrev ofxVald:=@ofC Tryz.prog gxVald 59 Tryz.f59 bxVald Tryz.func59 (by kernel_rfl) (by kernel_rfl) (by kernel_rfl) (by kernel_rfl)
noncomputable def gxDiv:Ctx:={N:=86,plan:=at1 6 (some (ln [1,3,5,7,9,11,13,15,17,19,21,23,25,27,29,31,33,35])) (at1 8 (some (.one 0 true (.one 1 true (.one 2 true (.one 3 true (.one 4 true (.one 5 true (.one 6 true (.one 7 true (.one 8 true (.alt 9 (.one 10 true (.one 11 false (.one 12 false (.done)))) (.alt 11 (.one 9 false (.one 10 true (.one 12 false (.done)))) (.stop))))))))))))) (at1 14 (some (ln [1,3,5,7,8,11])) (fun _=>none))),cut:=at1 8 (true) (at1 9 (true) (fun _=>false))}
noncomputable def bxDiv:Code:=bdy Tryz.f109
abbrev ofxDiv:=@ofC Tryz.prog gxDiv 109 Tryz.f109 bxDiv Tryz.func109 (by kernel_rfl) (by kernel_rfl) (by kernel_rfl) (by kernel_rfl)
noncomputable def gxInt:Ctx:={N:=11}
noncomputable def bxInt:Code:=bdy Tryz.f101
abbrev ofxInt:=@ofC Tryz.prog gxInt 101 Tryz.f101 bxInt Tryz.func101 (by kernel_rfl) (by kernel_rfl) (by kernel_rfl) (by kernel_rfl)
noncomputable def gxSubs:Ctx:={N:=15}
noncomputable def bxSubs:Code:=bdy Tryz.f60
abbrev ofxSubs:=@ofC Tryz.prog gxSubs 60 Tryz.f60 bxSubs Tryz.func60 (by kernel_rfl) (by kernel_rfl) (by kernel_rfl) (by kernel_rfl)
noncomputable def gxLst:Ctx:={N:=77,np:=1,own:=at1 159 (true) (fun _=>false),plan:=at1 10 (some (ln [1,3,5,7,9,11,13,15,17,21,23,25,27,29,31,33,37,39,18,34,40])) (fun _=>none),cut:=at1 5 (true) (fun _=>false)}
noncomputable def bxLst:Code:=bdy Tryz.f159
abbrev ofxLst:=@ofC Tryz.prog gxLst 159 Tryz.f159 bxLst Tryz.func159 (by kernel_rfl) (by kernel_rfl) (by kernel_rfl) (by kernel_rfl)
noncomputable def gxFst:Ctx:={N:=31,own:=at1 159 (true) (fun _=>false)}
noncomputable def bxFst:Code:=bdy Tryz.f110
abbrev ofxFst:=@ofC Tryz.prog gxFst 110 Tryz.f110 bxFst Tryz.func110 (by kernel_rfl) (by kernel_rfl) (by kernel_rfl) (by kernel_rfl)
noncomputable def gxVals:Ctx:={N:=17}
noncomputable def bxVals:Code:=bdy Tryz.f196
abbrev ofxVals:=@ofC Tryz.prog gxVals 196 Tryz.f196 bxVals Tryz.func196 (by kernel_rfl) (by kernel_rfl) (by kernel_rfl) (by kernel_rfl)
noncomputable def gxHdr:Ctx:={N:=17}
noncomputable def bxHdr:Code:=bdy Tryz.f197
abbrev ofxHdr:=@ofC Tryz.prog gxHdr 197 Tryz.f197 bxHdr Tryz.func197 (by kernel_rfl) (by kernel_rfl) (by kernel_rfl) (by kernel_rfl)
noncomputable def gxWith:Ctx:={N:=29}
noncomputable def bxWith:Code:=bdy Tryz.f160
abbrev ofxWith:=@ofC Tryz.prog gxWith 160 Tryz.f160 bxWith Tryz.func160 (by kernel_rfl) (by kernel_rfl) (by kernel_rfl) (by kernel_rfl)
noncomputable def gxTop:Ctx:={N:=12}
noncomputable def bxTop:Code:=bdy Tryz.f141
abbrev ofxTop:=@ofC Tryz.prog gxTop 141 Tryz.f141 bxTop Tryz.func141 (by kernel_rfl) (by kernel_rfl) (by kernel_rfl) (by kernel_rfl)
noncomputable def gxFull:Ctx:={N:=15}
noncomputable def bxFull:Code:=bdy Tryz.f64
abbrev ofxFull:=@ofC Tryz.prog gxFull 64 Tryz.f64 bxFull Tryz.func64 (by kernel_rfl) (by kernel_rfl) (by kernel_rfl) (by kernel_rfl)
noncomputable def gxBVal:Ctx:={N:=24,plan:=at1 4 (some (ln [1,3,5,7,9,11,13,15,17,19,21,23,25])) (fun _=>none)}
noncomputable def bxBVal:Code:=bdy Tryz.f144
abbrev ofxBVal:=@ofC Tryz.prog gxBVal 144 Tryz.f144 bxBVal Tryz.func144 (by kernel_rfl) (by kernel_rfl) (by kernel_rfl) (by kernel_rfl)
noncomputable def gxCov:Ctx:={N:=36,hints:=at1 2 ([.virt 7 10]) (fun _=>[])}
noncomputable def bxCov:Code:=bdy Tryz.f195
abbrev ofxCov:=@ofC Tryz.prog gxCov 195 Tryz.f195 bxCov Tryz.func195 (by kernel_rfl) (by kernel_rfl) (by kernel_rfl) (by kernel_rfl)
noncomputable def gxEither:Ctx:={N:=9}
noncomputable def bxEither:Code:=bdy Tryz.f220
abbrev ofxEither:=@ofC Tryz.prog gxEither 220 Tryz.f220 bxEither Tryz.func220 (by kernel_rfl) (by kernel_rfl) (by kernel_rfl) (by kernel_rfl)
noncomputable def gxBoth:Ctx:={N:=9}
noncomputable def bxBoth:Code:=bdy Tryz.f143
abbrev ofxBoth:=@ofC Tryz.prog gxBoth 143 Tryz.f143 bxBoth Tryz.func143 (by kernel_rfl) (by kernel_rfl) (by kernel_rfl) (by kernel_rfl)
noncomputable def gxWout:Ctx:={N:=10}
noncomputable def bxWout:Code:=bdy Tryz.f111
abbrev ofxWout:=@ofC Tryz.prog gxWout 111 Tryz.f111 bxWout Tryz.func111 (by kernel_rfl) (by kernel_rfl) (by kernel_rfl) (by kernel_rfl)
noncomputable def gxCuts:Ctx:={N:=47,own:=at1 214 (true) (at1 215 (true) (fun _=>false)),plan:=at1 8 (some (ln [1,3,5,7,9,11,13,15,17,19,21,23,24,26,29])) (fun _=>none)}
noncomputable def bxCuts:Code:=bdy Tryz.f194
abbrev ofxCuts:=@ofC Tryz.prog gxCuts 194 Tryz.f194 bxCuts Tryz.func194 (by kernel_rfl) (by kernel_rfl) (by kernel_rfl) (by kernel_rfl)
noncomputable def gxValC:Ctx:={N:=6}
noncomputable def bxValC:Code:=bdy Tryz.f156
abbrev ofxValC:=@ofC Tryz.prog gxValC 156 Tryz.f156 bxValC Tryz.func156 (by kernel_rfl) (by kernel_rfl) (by kernel_rfl) (by kernel_rfl)
noncomputable def gxIdx:Ctx:={N:=19}
noncomputable def bxIdx:Code:=bdy Tryz.f193
abbrev ofxIdx:=@ofC Tryz.prog gxIdx 193 Tryz.f193 bxIdx Tryz.func193 (by kernel_rfl) (by kernel_rfl) (by kernel_rfl) (by kernel_rfl)
noncomputable def gxClone:Ctx:={N:=8,res:=true}
noncomputable def bxClone:Code:=bdy Tryz.f155
abbrev ofxClone:=@ofC Tryz.prog gxClone 155 Tryz.f155 bxClone Tryz.func155 (by kernel_rfl) (by kernel_rfl) (by kernel_rfl) (by kernel_rfl)
noncomputable def gxDel:Ctx:={N:=42,np:=1,res:=true,lend:=at1 193 (true) (fun _=>false)}
noncomputable def bxDel:Code:=bdy Tryz.f154
abbrev ofxDel:=@ofC Tryz.prog gxDel 154 Tryz.f154 bxDel Tryz.func154 (by kernel_rfl) (by kernel_rfl) (by kernel_rfl) (by kernel_rfl)
noncomputable def gxVal:Ctx:={N:=6,own:=at1 155 (true) (at1 154 (true) (fun _=>false))}
noncomputable def bxVal:Code:=bdy Tryz.f108
abbrev ofxVal:=@ofC Tryz.prog gxVal 108 Tryz.f108 bxVal Tryz.func108 (by kernel_rfl) (by kernel_rfl) (by kernel_rfl) (by kernel_rfl)
noncomputable def gxDel0:Ctx:={N:=42}
noncomputable def bxDel0:Code:=bdy Tryz.f154
abbrev ofxDel0:=@ofC Tryz.prog gxDel0 154 Tryz.f154 bxDel0 Tryz.func154 (by kernel_rfl) (by kernel_rfl) (by kernel_rfl) (by kernel_rfl)
theorem cxTop(f:Int){K:KT}(hK:K (.v (.int .u32 (topI f))) []):ACall Tryz.prog 141 [.v (.int .i64 f)] [] K:=by
 refine ofxTop rfl rfl ?_
 by_cases h1:0<=f/\f<5
 ·have h2:f=0\/f=1\/f=2\/f=3\/f=4:=by omega
  rcases h2 with rfl|rfl|rfl|rfl|rfl
  all_goals
   (repeat' ((conv=>whnf);first|(refine in_c (by decide) ?_)|refine zG ?_|apply zA|(apply zI;intro h)|exact zT));(all_goals conv=>whnf)
   exact hK
 ·(repeat' ((conv=>whnf);first|refine zG ?_|apply zA|(apply zI;intro h)|exact zT));(all_goals conv=>whnf)
  ·rw[show topI f=0 from by unfold topI;rw[if_neg (by omega),if_neg (by omega),if_neg (by omega)]]at hK
   exact hK
  ·rw[show topI f=0 from by unfold topI;rw[if_neg (by omega),if_neg (by omega),if_neg (by omega)]]at hK
   exact hK
theorem cxFull{K:KT}(hK:K (encX fullB) []):ACall Tryz.prog 64 [] [] K:=by
 refine ofxFull rfl rfl ?_
 (repeat' ((conv=>whnf);first|(with_reducible refine Lp.times 6 ?_)|(refine in_c (by decide) ?_)|refine zG ?_|apply zA|(apply zI;intro h)|exact zT));(all_goals conv=>whnf)
 exact hK
theorem cxBVal(b:Bx){K:KT}(hK:K (.sb (decide b.ok)) []):ACall Tryz.prog 144 [encX b] [] K:=by
 refine ACall.bool (ofxBVal rfl rfl ?_)
 (repeat' ((conv=>whnf);first|(with_reducible refine Lp.times 6 ?_)|(refine in_c (by decide) ?_)|refine zG ?_|apply zA|(apply zI;intro h)|exact zT));(all_goals conv=>whnf)
 all_goals
  have hb:b.ok↔((b.r0.lo<=b.r0.hi/\b.r0.hi<=4294967295)/\(b.r1.lo<=b.r1.hi/\b.r1.hi<=4294967295)/\(b.r2.lo<=b.r2.hi/\b.r2.hi<=255)/\(b.r3.lo<=b.r3.hi/\b.r3.hi<=65535)/\(b.r4.lo<=b.r4.hi/\b.r4.hi<=65535)):=Iff.rfl
  first
   |exact fin_f hK (decide_eq_false (by rw[hb];omega))
   |exact fin_t hK (decide_eq_true (by rw[hb];omega))
theorem cxEither(x y:Bool){K:KT}(hK:K (.sb (x||y)) []):ACall Tryz.prog 220 [.sb x,.sb y] [] K:=by
 refine ACall.bool (ofxEither rfl rfl ?_)
 (repeat' ((conv=>whnf);first|refine zG ?_|apply zA|(apply zI;intro h)|exact zT));(all_goals conv=>whnf)
 all_goals
  first
   |exact fin_s hK (by cases x<;>cases y<;>simp_all)
   |exact fin_t hK (by cases x<;>cases y<;>simp_all)
   |exact fin_f hK (by cases x<;>cases y<;>simp_all)
theorem cxBoth(x y:Bool){K:KT}(hK:K (.sb (x&&y)) []):ACall Tryz.prog 143 [.sb x,.sb y] [] K:=by
 refine ACall.bool (ofxBoth rfl rfl ?_)
 (repeat' ((conv=>whnf);first|refine zG ?_|apply zA|(apply zI;intro h)|exact zT));(all_goals conv=>whnf)
 all_goals
  first
   |exact fin_s hK (by cases x<;>cases y<;>simp_all)
   |exact fin_t hK (by cases x<;>cases y<;>simp_all)
   |exact fin_f hK (by cases x<;>cases y<;>simp_all)
theorem cxWout(x y:Bool){K:KT}(hK:K (.sb (x&& !y)) []):ACall Tryz.prog 111 [.sb x,.sb y] [] K:=by
 refine ACall.bool (ofxWout rfl rfl ?_)
 (repeat' ((conv=>whnf);first|refine zG ?_|apply zA|(apply zI;intro h)|exact zT));(all_goals conv=>whnf)
 all_goals
  first
   |exact fin_s hK (by cases x<;>cases y<;>simp_all)
   |exact fin_t hK (by cases x<;>cases y<;>simp_all)
   |exact fin_f hK (by cases x<;>cases y<;>simp_all)
theorem cxValC(x:Bx){K:KT}(hK:K (.sb (!decide x.ok)) []):ACall Tryz.prog 156 [encX x] [] K:=by
 refine ACall.bool (ofxValC rfl rfl ?_)
 (repeat' ((conv=>whnf);first|(with_reducible refine cxBVal x ?_)|refine zG ?_|apply zA|(apply zI;intro h)|exact zT));(all_goals conv=>whnf)
 exact fin_s hK rfl
theorem cxClone(l:List Bx)(hl:l.length<1000000000){K:KT}(hK0:l=[]->K .nils [])(hK:K (.os 0 10 0 l.length) [.arr 10 (l.map encX)]):ACall Tryz.prog 155 [encXs l] [] K:=by
 refine ofxClone rfl rfl ?_
 (repeat' ((conv=>whnf);first|refine zG ?_|apply zA|(apply zI;intro h)|exact zT));(all_goals conv=>whnf)
 intro b hb
 (repeat' ((conv=>whnf);first|refine zG ?_|apply zA|(apply zI;intro h)|exact zT));(all_goals conv=>whnf)
 ·exact hK0 (List.map_eq_nil_iff.1 (hb (by assumption)))
 ·have e:0+(l.map encX).length=l.length:=by rw[List.length_map];omega
  show K (.os 0 10 0 (0+(l.map encX).length)) [.arr 10 (l.map encX)]
  rw[e]
  exact hK
theorem cxIdx(l:List Bx)(hl:l.length<1000000000){K:KT}(hK1:(∀x,x∈l->x.ok)->K (.v (.int .i64 (-1))) [])
  (hK2:∀(i:Nat) x,l[i]? =some x->¬x.ok->(∀y,y∈l.take i->y.ok)->K (.v (.int .i64 i)) []):
  ACall Tryz.prog 193 [encXs l,.fn (.func 156) [] []] [] K:=by
 refine ofxIdx rfl rfl ?_
 (repeat' ((conv=>whnf);first|refine zG ?_|apply zA|(apply zI;intro h)|exact zT));(all_goals conv=>whnf)
 refine Lp.intro Nat (fun k=>⟨0,[],[(0,encXs l),(1,.fn (.func 156) [] []),(7,.v (.int .i64 ((l.map encX).length:Nat))),(8,.v (.int .i64 k))]⟩) (fun k=>k<=l.length/\∀y,y∈l.take k->y.ok) (fun k=>l.length-k) 0 ⟨Nat.zero_le _,by simp⟩ ?_ ?_
 ·(exact leA)
 intro k ⟨hk,hin⟩
 rcases Nat.lt_or_ge k l.length with hkl|hkl
 ·obtain⟨x,hx⟩:=gex hkl
  (repeat' ((conv=>whnf);first|(with_reducible first|refine in_map hkl ?_|refine ix_map hx ?_|refine cxValC x ?_)|refine zG ?_|apply zA|(apply zI;intro h)|exact zT));(all_goals conv=>whnf)
  all_goals first
   |exact hK2 k x hx (by simpa using h) hin
   |(refine⟨k+1,⟨hkl,fun y hy=>?_⟩,by omega,?_⟩
     ·rw[List.take_add_one,hx]at hy
      rcases List.mem_append.1 hy with hy|hy
      ·exact hin y hy
      ·simp only[Option.toList_some,List.mem_singleton]at hy
       subst hy
       simpa using h
     ·rw[Int.natCast_add,Int.natCast_one]
      (exact leA))
 ·rw[List.take_of_length_le hkl]at hin
  (repeat' ((conv=>whnf);first|refine zG ?_|apply zA|(apply zI;intro h)|exact zT));(all_goals conv=>whnf)
  exact hK1 hin
theorem cxDel(l:List Bx)(hl:l.length<1000000000){K:KT}(hK:∀zs,K (.os 0 10 0 (vldB l).length) [.arr 10 ((vldB l).map encX++zs)]):
  ACall Tryz.prog 154 [.os 0 10 0 l.length,.fn (.func 156) [] []] [.arr 10 (l.map encX)] K:=by
 refine ofxDel rfl rfl ?_
 (repeat' ((conv=>whnf);first|refine zG ?_|apply zA|(apply zI;intro h)|exact zT));(all_goals conv=>whnf)
 refine cxIdx l hl (fun hall=>?_) (fun i x hx hbad hbef=>?_)
 ·have e:vldB l=l:=List.filter_eq_self.2 fun y hy=>by simpa using hall y hy
  have:=hK []
  rw[e,List.append_nil]at this
  (repeat' ((conv=>whnf);first|refine zG ?_|apply zA|(apply zI;intro h)|exact zT));(all_goals conv=>whnf)
  exact this
 ·have hil:i<l.length:=(List.getElem?_eq_some_iff.1 hx).1
  have e0:vldB (l.take i)=l.take i:=List.filter_eq_self.2 fun y hy=>by simpa using hbef y hy
  have e1:vldB (l.take (i+1))=l.take i:=by rw[vldB_succ hx,if_neg hbad,e0,List.append_nil]
  have e2:(l.take i).length=i:=by rw[List.length_take];omega
  (repeat' ((conv=>whnf);first|refine zG ?_|apply zA|(apply zI;intro h)|exact zT));(all_goals conv=>whnf)
  refine Lp.intro Nat (fun j=>⟨1,[(0,.arr 10 ((vldB (l.take j)++l.drop (vldB (l.take j)).length).map encX))],[(0,.os 0 10 0 l.length),(1,.fn (.func 156) [] []),(5,.v (.int .i64 (vldB (l.take j)).length)),(6,.v (.int .i64 j))]⟩) (fun j=>j<=l.length/\(vldB (l.take j)).length<j) (fun j=>l.length-j) (i+1) ⟨hil,by rw[e1,e2];omega⟩ ?_ ?_
  ·rw[e1,e2,List.take_append_drop,Int.natCast_add,Int.natCast_one]
   (exact leA)
  intro j ⟨hj1,hj2⟩
  rcases Nat.lt_or_ge j l.length with hjl|hjl
  ·obtain⟨y,hy⟩:=gex hjl
   have hs:=vldB_succ hy
   generalize hC:vldB (l.take j)=C at*
   have hget:∀i,C.length<=i->(C++l.drop C.length)[i]? =l[i]? :=fun i hi=>by
    rw[List.getElem?_append_right hi,List.getElem?_drop]
    congr 1;omega
   have hCn:C.length<l.length:=by omega
   have hy0:(C++l.drop C.length)[0+j]? =some y:=by rw[Nat.zero_add,hget _ (by omega)];exact hy
   obtain⟨z,hz⟩:∃z,l[C.length]? =some z:=⟨_,List.getElem?_eq_getElem hCn⟩
   have hz0:(C++l.drop C.length)[0+C.length]? =some z:=by rw[Nat.zero_add,hget _ (Nat.le_refl _)];exact hz
   have hdr:l.drop C.length=z::l.drop (C.length+1):=by
    rw[List.getElem?_eq_getElem hCn]at hz
    rw[<-Option.some.inj hz,<-List.drop_eq_getElem_cons hCn]
   have hset:((C++l.drop C.length).map encX).set (0+C.length) (encX y)=((C++[y])++l.drop (C++[y]).length).map encX:=by
    rw[Nat.zero_add,<-List.map_set,List.set_append_right _ _ (Nat.le_refl _),Nat.sub_self,hdr]
    simp
   (repeat' ((conv=>whnf);first|(with_reducible first|refine in_nat hjl ?_|refine ix_map hy0 ?_|refine cxValC y ?_|refine in_nat hCn ?_|refine ix_map hz0 ?_)|refine zG ?_|apply zA|(apply zI;intro h)|exact zT));(all_goals conv=>whnf)
   ·rw[if_pos h]at hs
    refine⟨j+1,⟨hjl,by rw[hs,List.length_append];simp;omega⟩,by omega,?_⟩
    rw[hs,<-hset,show((C++[y]).length:Int)=(C.length:Int)+1 by simp,Int.natCast_add j,Int.natCast_one]
    (exact leA)
   ·rw[if_neg h,List.append_nil]at hs
    refine⟨j+1,⟨hjl,by rw[hs];omega⟩,by omega,?_⟩
    rw[hs,Int.natCast_add j,Int.natCast_one]
    (exact leA)
  ·have hCl:vldB (l.take j)=vldB l:=by rw[List.take_of_length_le hjl]
   have hCn:(vldB l).length<=l.length:=vldB_len l
   rw[hCl]
   (repeat' ((conv=>whnf);first|(refine Sb.intro (vldB l).length l.length rfl rfl hCn (Nat.le_refl _) ?_)|(refine Sb.intro 0 (vldB l).length rfl rfl (Nat.zero_le _) hCn ?_)|refine zG ?_|apply zA|(apply zI;intro h)|exact zT));(all_goals conv=>whnf)
   have e3:(List.map encX (vldB l++l.drop (vldB l).length)).take (0+(vldB l).length)=(vldB l).map encX:=by
    rw[Nat.zero_add,List.map_append,List.take_left' (by simp)]
   rw[e3,Nat.add_zero,Nat.sub_zero]
   exact hK _
theorem cxIdx0{K:KT}(hK:K (.v (.int .i64 (-1))) []):
  ACall Tryz.prog 193 [.lst [],.fn (.func 156) [] []] [] K:=
 cxIdx [] (by decide) (fun _=>hK) (fun i x h=>by simp at h)
theorem cxDel0{K:KT}(hK:K .nils []):
  ACall Tryz.prog 154 [.nils,.fn (.func 156) [] []] [] K:=by
 refine ofxDel0 rfl rfl ?_
 (repeat' ((conv=>whnf);first|(with_reducible refine cxIdx0 ?_)|refine zG ?_|apply zA|(apply zI;intro h)|exact zT));(all_goals conv=>whnf)
 exact hK
theorem cxVal(l:List Bx)(hl:l.length<1000000000){K:KT}(hK:K (encXs (vldB l)) []):ACall Tryz.prog 108 [encXs l] [] K:=by
 refine ACall.weak (ofxVal rfl rfl ?_)
 (repeat' ((conv=>whnf);first|refine zG ?_|apply zA|(apply zI;intro h)|exact zT));(all_goals conv=>whnf)
 refine cxClone l hl (fun e=>?_) ?_
 ·subst e
  (repeat' ((conv=>whnf);first|(with_reducible refine cxDel0 ?_)|refine zG ?_|apply zA|(apply zI;intro h)|exact zT));(all_goals conv=>whnf)
  exact⟨_,Weak.nils,hK⟩
 ·(repeat' ((conv=>whnf);first|(with_reducible refine cxDel l hl fun zs=>?_)|refine zG ?_|apply zA|(apply zI;intro h)|exact zT));(all_goals conv=>whnf)
  refine Sl.intro (ys:=(vldB l).map encX) (by simp) (by rw[List.drop_zero,List.take_left' (by simp)]) ?_
  exact⟨_,Weak.refl,hK⟩
end Go.Proofs.YtokmdghjgegclaaGreatDoor
