/- The generator: intents. -/
import Derived.Test.YtbdikofefjljoaaGreatDoorJ23
set_option linter.unusedVariables false
set_option linter.unusedSimpArgs false
set_option maxRecDepth 100000
set_option maxHeartbeats 4000000
namespace Go.Proofs.YtbdikofefjljoaaGreatDoor
open Go Go.Vm
noncomputable abbrev nilNt:Vm.Obj:=.box [.nils,.nils,.nils,.nils,.nils,.nils]
noncomputable abbrev itBox(x:It):Vm.Obj:=.box [.v (.int .i64 x.kind),.v (.string x.name),.v (.int .u32 x.pf.addr),.v (.int .i64 x.pf.bits),.v (.int .i64 x.proto),.v (.int .u32 x.ports.lo),.v (.int .u32 x.ports.hi)]
def SvcIt(y:It):Prop:=(y.kind=3/\y.proto=0/\y.ports.lo=0/\y.ports.hi=0)\/(y.proto=6\/y.proto=17)\/(y.proto=1/\y.ports.lo=8/\y.ports.hi=8)\/(y.proto=50/\y.ports.lo=0/\y.ports.hi=0)
structure GNt (i:Nt):Prop where
 few:Few i
 s2:i.svcs.length<=2
 sv:∀d,d∈i.svcs->∀y,y∈d.items->SvcIt y
open Classical in
noncomputable def canO(f:Int->Bool):List Rg:=if h:∃l,Canon l/\∀v,has l v=f v then h.choose else []
theorem canO_eq{f:Int->Bool}{l:List Rg}(hc:Canon l)(hf:∀v,has l v=f v):canO f=l:=by
 have h:∃l,Canon l/\∀v,has l v=f v:=⟨l,hc,hf⟩
 rw[canO,dif_pos h]
 obtain⟨h1,h2⟩:=h.choose_spec
 exact canon_ext h1 hc fun v=>by rw[h2,hf]
theorem canO_spec{f:Int->Bool}(h:∃l,Canon l/\∀v,has l v=f v):Canon (canO f)/\∀v,has (canO f) v=f v:=by
 obtain⟨l,h1,h2⟩:=h
 rw[canO_eq h1 h2]
 exact⟨h1,h2⟩
theorem sub_ex(a b:List Rg):∃l,Canon l/\∀v,has l v=(has a v&& !has b v):=by
 have inv:=starts_inv (a++b) (top:=4294967295) zd
 obtain⟨r0,hr0⟩:=inv.zero
 have hseg:∀s,s∈segs 4294967295 (starts (a++b) 4294967295)->∀v,s.1<=v->v<=s.2->(fun v=>has a v&& !has b v) v=(fun v=>has a v&& !has b v) s.1:=by
  intro s hs v h1 h2
  simp only
  rw[has_const zd (fun r hr=>aU.2 (.inl hr)) hs h1 h2,has_const zd (fun r hr=>aU.2 (.inr hr)) hs h1 h2]
 have hsort:=inv.sorted
 have hrange:=inv.range
 rw[hr0]at hseg hsort hrange
 have hk:=fold_inv (f:=fun v=>has a v&& !has b v) (top:=4294967295) zd r0 0 [] ⟨⟨fun r hr=>by simp at hr,by simp⟩,fun v=>by
  rw[bD]
  simp only[has,List.any_nil,cL,aF,aI,false_iff]
  omega,fun r hr=>by simp at hr⟩ hsort hrange hseg
 refine⟨_,hk.canon,fun v=>?_⟩
 rw[hk.mem]
 cases h:(has a v&& !has b v)with
 |false=>simp
 |true=>
  simp only[aF]at h
  obtain⟨r,hr,h1,h2⟩:=has_iff.1 h.1
  have:=r.l0;have:=r.h1
  simp only[fL,aF,aI]
  omega
def itsN(l:List Df):Nat:=(l.map fun d=>d.items.length).sum
theorem canon_len{c rs:List Rg}(hc:Canon c)(h:∀v,has c v=has rs v):c.length<=rs.length:=by
 have hn:(c.map fun r=>r.lo).Nodup:=by
  unfold List.Nodup
  rw[List.pairwise_map]
  refine List.Pairwise.imp_of_mem ?_ hc.2
  intro a b ha _ hab e
  have:=hc.1 a ha;omega
 have:=nodup_sub hn (m:=rs.map fun r=>r.lo) fun x hx=>by
  obtain⟨r,hr,rfl⟩:=bK.1 hx
  have hle:=hc.1 r hr
  have h1:has rs r.lo=true:=by rw[<-h];exact has_iff.2 ⟨r,hr,cD _,hle⟩
  obtain⟨s,hs,s1,s2⟩:=has_iff.1 h1
  refine bK.2 ⟨s,hs,?_⟩
  rcases dO s.lo r.lo with hlt|hge
  ·exfalso
   have h2:has c (r.lo-1)=true:=by rw[h];exact has_iff.2 ⟨s,hs,by omega,by omega⟩
   obtain⟨q,hq,q1,q2⟩:=has_iff.1 h2
   obtain⟨i,hi,rfl⟩:=eZ.1 hr
   obtain⟨j,hj,rfl⟩:=eZ.1 hq
   have hp:=cC.1 hc.2
   rcases Nat.lt_trichotomy i j with hij|hij|hij
   ·have:=hp i j hi hj hij;omega
   ·subst hij;omega
   ·have:=hp j i hj hi hij;omega
  ·omega
 simpa using this
theorem canO_len(rs:List Rg):(canO (has rs)).length<=rs.length:=by
 obtain⟨c,hc,hh⟩:=sub_ex rs []
 have hh':∀v,has c v=has rs v:=fun v=>by rw[hh,has_nil];simp
 rw[canO_eq hc hh']
 exact canon_len hc hh'
theorem canO_has(rs:List Rg):Canon (canO (has rs))/\∀v,has (canO (has rs)) v=has rs v:=by
 obtain⟨c,hc,hh⟩:=sub_ex rs []
 exact canO_spec ⟨c,hc,fun v=>by rw[hh,has_nil];simp⟩
def prB(p:Int)(r:Rg):Bool:=if p=6\/p=17 then decide (r.lo<=r.hi/\r.hi<=65535)else if p=1 then decide (r.lo=8/\r.hi=8)else decide (0<=p/\p<=255/\r.lo=0/\r.hi=0)
def itN(x:It):Bool:=decide (x.pf.addr=0/\x.pf.bits=0/\x.proto=0/\x.ports.lo=0/\x.ports.hi=0)
def itP(x:It):Bool:=sEq x.name ⟨#[]⟩&&decide (x.proto=0/\x.ports.lo=0/\x.ports.hi=0)
def itS(x:It):Bool:=sEq x.name ⟨#[]⟩&&decide (x.pf.addr=0/\x.pf.bits=0)
noncomputable def itB(x:It)(g:Bool):Bool:=
 if x.kind=3 then nameB x.name&&itN x
 else if x.kind=1 then g&&(nameB x.name&&itN x)
 else if x.kind=2 then g&&(decide x.pf.okP&&itP x)
 else if x.kind=4 then !g&&(prB x.proto x.ports&&itS x)else false
def dfIx(l:List Df)(s:ByteArray):Int:=firstIx (fun d=>sEq d.name s) l
structure DfOk (l:List Df) (g:Bool) (i:Nat) (d:Df):Prop where
 name:nameB d.name=true
 first:dfIx l d.name=i
 lo:1<=d.items.length
 hi:d.items.length<=16
 all:∀x,x∈d.items->itB x g=true
structure DfsOk (l:List Df) (g:Bool):Prop where
 len:l.length<=32
 all:∀(i:Nat) d,l[i]? =some d->DfOk l g i d
noncomputable def dayW(l:List Rg)(d:Nat):List Rg:=canO fun v=>has l v&&(decide (1440*(d:Int)<=v)&&decide (v<=1440*(d:Int)+1439))
noncomputable def cntW(l:List Rg)(k:Nat):Nat:=((List.range k).map fun d=>(dayW l d).length).sum
theorem cntW_succ(l:List Rg)(k:Nat):cntW l (k+1)=cntW l k+(dayW l k).length:=by
 rw[cntW,fK,aQ,List.sum_append,<-cntW];simp
structure WinOk (l:List Rg):Prop where
 can:Canon l
 top:∀r,r∈l->r.hi<=10079
 few:cntW l 7<=16
def wnIx(l:List Wn)(s:ByteArray):Int:=firstIx (fun d=>sEq d.name s) l
structure WnOk (l:List Wn) (i:Nat) (w:Wn):Prop where
 name:nameB w.name=true
 first:wnIx l w.name=i
 act:WinOk w.act
noncomputable def optB(s:ByteArray):Bool:=sEq s ⟨#[]⟩||nameB s
noncomputable def smB(x:Sm):Bool:=
 (optB x.frm&&(optB x.to&&(optB x.svc&&(optB x.cls&&(optB x.dur&&(optB x.exF&&optB x.exT))))))&&
 ((x.exc||(sEq x.exF ⟨#[]⟩&&sEq x.exT ⟨#[]⟩))&&((x.permit||sEq x.cls ⟨#[]⟩)&&(decide (0<=x.pri)&&decide (x.pri<=1000))))
def ptB(n:Int):Bool:=decide (0<=n)&&decide (n<=65535)
noncomputable def pbB(x:Pb):Bool:=(decide (x.proto=6)||decide (x.proto=17))&&(ptB x.port&&(ptB x.rport&&nameB x.edge))
noncomputable def hnB(x:Hn):Bool:=nameB x.grp&&(nameB x.edge&&decide (1024<=x.ports.lo/\x.ports.lo<=x.ports.hi/\x.ports.hi<=65535))
structure NtOk (i:Nt):Prop where
 g:DfsOk i.grps true
 s:DfsOk i.svcs false
 wl:i.wins.length<=32
 tl:i.sts.length<=64
 pl:i.pubs.length<=16
 hl:i.hids.length<=8
 w:∀(k:Nat) x,i.wins[k]? =some x->WnOk i.wins k x
 t:∀x,x∈i.sts->smB x=true
 p:∀x,x∈i.pubs->pbB x=true
 h:∀x,x∈i.hids->hnB x=true
open Classical in
noncomputable def dfsB(l:List Df)(g:Bool):Bool:=decide (DfsOk l g)
theorem dfsB_iff{l:List Df}{g:Bool}:dfsB l g=true↔DfsOk l g:=by simp[dfsB]
theorem dfsB_true{l:List Df}{g:Bool}(h:DfsOk l g):dfsB l g=true:=dfsB_iff.2 h
theorem dfsB_false{l:List Df}{g:Bool}(h:¬DfsOk l g):dfsB l g=false:=by rw[bV,ne_eq,dfsB_iff];exact h
open Classical in
noncomputable def winB(l:List Rg):Bool:=decide (WinOk l)
theorem winB_iff{l:List Rg}:winB l=true↔WinOk l:=by simp[winB]
open Classical in
noncomputable def ntB(i:Nt):Bool:=decide (NtOk i)
theorem ntB_iff{i:Nt}:ntB i=true↔NtOk i:=by simp[ntB]
theorem ntB_true{i:Nt}(h:NtOk i):ntB i=true:=ntB_iff.2 h
theorem ntB_false{i:Nt}(h:¬NtOk i):ntB i=false:=by rw[bV,ne_eq,ntB_iff];exact h
theorem dayW_eq{l out:List Rg}{d:Nat}(hc:Canon out)(hh:∀v,has out v=(has l v&&(decide (1440*(d:Int)<=v)&&decide (v<=1440*(d:Int)+1439)))):dayW l d=out:=canO_eq hc hh
theorem cano_len_by(op:Bool->Bool->Bool)(k:Nat)(a b:List Bx)(L:List Rg)(hc:∀u v,0<=u->u<=topF (4-k)->0<=v->v<=topF (4-k)->(∀r,r∈L->((r.lo<=u/\u<=r.hi)↔(r.lo<=v/\v<=r.hi)))->restAt op k a b u=restAt op k a b v):
  (cano op (k+1) a b).length<=((starts L (topF (4-k))).map fun e=>(restAt op k a b e).length).sum:=by
 have h:=starts_cuts L (topF_pos (4-k)).1
 have g:=cano_ginv op k a b (starts_cuts (rngs (4-k) a b) (topF_pos (4-k)).1)
 have g2:GInv (restAt op k a b) (groupsOf (restAt op k a b) (topF (4-k)) (starts L (topF (4-k)))) (topF (4-k)+1):=by
  obtain⟨r,hr⟩:=h.zero
  have hs:=h.sorted
  have hb:=fun y hy=>h.range y hy
  have hcc:∀s,s∈segs (topF (4-k)) (starts L (topF (4-k)))->∀v,s.1<=v->v<=s.2->restAt op k a b v=restAt op k a b s.1:=fun s hs v v1 v2=>by
   obtain⟨q1,q2,q3⟩:=segs_spec _ h.sorted (fun x hx=>(h.range x hx).2) s hs
   have hm:s.1∈starts L (topF (4-k)):=by
    rw[<-segs_fst (topF (4-k)) (starts L (topF (4-k)))]
    exact fC hs
   have:=h.range _ hm
   have ht:s.2<=topF (4-k):=by
    first
     |exact q2
     |omega
   exact hc v s.1 zo zo this.1 this.2 fun r hr=>h.const hs v1 v2 hr
  rw[groupsOf,hr]
  rw[hr]at hs hb hcc
  exact fold_ginv r 0 [] (GInv.start _) (cD _) hs (fun y hy=>(hb y hy).2) hcc
 rw[cano_succ,g.same g2,flatG_len]
 exact groups_le _ _ _
def ApartR(es:List Rg):Prop:=es.Pairwise fun r s=>r.hi<s.lo\/s.hi<r.lo
def cutsR(C:List Rg):List Int:=C.flatMap fun r=>[r.lo,r.hi+1]
def pieces(L:List Rg)(top:Int)(r:Rg):Nat:=((starts L top).filter (inR r)).length
theorem inR_iff{r:Rg}{e:Int}:inR r e=true↔r.lo<=e/\e<=r.hi:=by rw[inR,aF,aI,aI]
theorem apart_mem{es:List Rg}(h:ApartR es):∀r,r∈es->∀s,s∈es->r=s\/r.hi<s.lo\/s.hi<r.lo:=by
 intro r hr s hs
 obtain⟨i,hi,rfl⟩:=eZ.1 hr
 obtain⟨j,hj,rfl⟩:=eZ.1 hs
 have hp:=cC.1 h
 rcases Nat.lt_trichotomy i j with h|h|h
 ·exact .inr (hp i j hi hj h)
 ·subst h;exact .inl rfl
 ·exact .inr (hp j i hj hi h).symm
theorem pieces_le{es C:List Rg}(hd:ApartR es)(hle:∀r,r∈es->r.lo<=r.hi){top:Int}(ht:0<=top){r:Rg}(hr:r∈es):pieces (es++C) top r<=1+((cutsR C).filter (inR r)).length:=by
 have hs:=(starts_inv (es++C) ht).sorted
 have:=nodup_sub (filter_nodup hs (inR r)) (m:=r.lo::(cutsR C).filter (inR r)) fun e he=>by
  obtain⟨h1,h2⟩:=bX.1 he
  have h2':=h2
  rw[inR_iff]at h2
  rcases starts_from _ _ e h1 with h0|⟨s,hs,hse⟩
  ·have:=r.l0
   rw[show e=r.lo by omega];exact gD
  ·rcases aU.1 hs with hs|hs
   ·have hls:=hle s hs
    rcases apart_mem hd r hr s hs with h|h|h
    ·subst h;rw[show e=r.lo by omega];exact gD
    ·exfalso;omega
    ·rw[show e=r.lo by omega];exact gD
   ·refine aX _ (bX.2 ⟨dH.2 ⟨s,hs,?_⟩,h2'⟩)
    rcases hse with h|h<;>simp[h]
 simp only[aK]at this
 unfold pieces;omega
theorem sum_nat_add{α:Type}(f g:α->Nat)(l:List α):(l.map fun e=>f e+g e).sum=(l.map f).sum+(l.map g).sum:=by
 induction l with
 |nil=>rfl
 |cons e l ih=>simp only[aW,cQ,ih];omega
theorem sum_nat_le{α:Type}{f g:α->Nat}{l:List α}(h:∀e,e∈l->f e<=g e):(l.map f).sum<=(l.map g).sum:=by
 induction l with
 |nil=>exact aJ _
 |cons e l ih=>
  have h1:=h e zx
  have h2:=ih fun x hx=>h x (aX _ hx)
  simp only[aW,cQ];omega
theorem sum_nat_const{α:Type}(c:Nat)(l:List α):(l.map fun _=>c).sum=l.length*c:=by
 induction l with
 |nil=>simp
 |cons e l ih=>simp only[aW,cQ,ih,aK,eX];omega
theorem le_sum_nat{α:Type}{f:α->Nat}{l:List α}{x:α}(h:x∈l):f x<=(l.map f).sum:=by
 induction l with
 |nil=>simp at h
 |cons e l ih=>
  simp only[aW,cQ]
  rcases aS.1 h with h|h
  ·subst h;omega
  ·have:=ih h;omega
theorem pieces_one{L:List Rg}(hd:ApartR L)(hle:∀r,r∈L->r.lo<=r.hi){top:Int}(ht:0<=top){r:Rg}(hr:r∈L):pieces L top r<=1:=by
 have:=pieces_le (C:=[]) hd hle ht hr
 rw[bJ]at this
 exact this
theorem sum_by{L:List Rg}{N:Rg->Nat}{R:Int->Nat}:∀{st:List Int},(∀e,e∈st->R e=0\/∃r,r∈L/\inR r e=true/\R e<=N r)->(st.map R).sum<=(L.map fun r=>(st.filter (inR r)).length*N r).sum
 |[],_=>aL _
 |e::st,h=>by
  have ih:=sum_by (st:=st) fun x hx=>h x (aX _ hx)
  have e1:(L.map fun r=>((e::st).filter (inR r)).length*N r).sum=(L.map fun r=>(if inR r e=true then N r else 0)).sum+(L.map fun r=>(st.filter (inR r)).length*N r).sum:=by
   rw[<-sum_nat_add]
   refine congrArg List.sum (dU fun r _=>?_)
   rw[eD]
   split
   ·rw[aK,eX];omega
   ·omega
  have e2:R e<=(L.map fun r=>if inR r e=true then N r else 0).sum:=by
   rcases h e zx with h|⟨r,hr,h1,h2⟩
   ·omega
   ·refine bO h2 ?_
    have:=le_sum_nat (f:=fun r=>if inR r e=true then N r else 0) hr
    simpa only[h1,if_true]using this
  rw[aW,cQ,e1];omega
theorem cano_len_ranges(op:Bool->Bool->Bool)(k:Nat)(a b:List Bx)(L:List Rg)(hd:ApartR L)(hle:∀r,r∈L->r.lo<=r.hi)(N:Rg->Nat)
  (hout:∀v,0<=v->v<=topF (4-k)->(∀r,r∈L->inR r v=false)->restAt op k a b v=[])
  (hin:∀r,r∈L->∀u v,inR r u=true->inR r v=true->0<=u->u<=topF (4-k)->0<=v->v<=topF (4-k)->restAt op k a b u=restAt op k a b v)
  (hN:∀r,r∈L->∀u,inR r u=true->0<=u->u<=topF (4-k)->(restAt op k a b u).length<=N r):(cano op (k+1) a b).length<=(L.map N).sum:=by
 have ht:=(topF_pos (4-k)).1
 have h0:=cano_len_by op k a b L fun u v u0 u1 v0 v1 h=>by
  by_cases he:∃r,r∈L/\inR r u=true
  ·obtain⟨r,hr,hu⟩:=he
   exact hin r hr u v hu (inR_iff.2 ((h r hr).1 (inR_iff.1 hu))) u0 u1 v0 v1
  ·have hu:∀r,r∈L->inR r u=false:=fun r hr=>by
    rw[bV];exact fun hh=>he ⟨r,hr,hh⟩
   rw[hout u u0 u1 hu,hout v v0 v1 fun r hr=>by
    have:=hu r hr
    rw[bV,ne_eq,inR_iff]at this⊢
    exact fun hh=>this ((h r hr).2 hh)]
 have hr0:=fun e he=>(starts_inv L ht).range e he
 have h1:=sum_by (L:=L) (N:=N) (R:=fun e=>(restAt op k a b e).length) (st:=starts L (topF (4-k))) fun e he=>by
  have hb:=(starts_cuts L ht).range e he
  by_cases hx:∃r,r∈L/\inR r e=true
  ·obtain⟨r,hr,hu⟩:=hx
   exact .inr ⟨r,hr,hu,hN r hr e hu hb.1 hb.2⟩
  ·left
   show(restAt op k a b e).length=0
   rw[hout e hb.1 hb.2 fun r hr=>by rw[bV];exact fun hh=>hx ⟨r,hr,hh⟩];rfl
 refine bO h0 (bO h1 (sum_nat_le fun r hr=>?_))
 have:=pieces_one hd hle ht hr
 unfold pieces at this
 have:=bR (N r) this
 omega
def setF(p:Nat->Int)(f:Nat)(v:Int):Nat->Int:=fun g=>if g=f then v else p g
theorem setF_at(p:Nat->Int)(f:Nat)(v:Int):setF p f v f=v:=aH rfl
theorem setF_ne{p:Nat->Int}{f:Nat}{v:Int}{g:Nat}(h:g≠f):setF p f v g=p g:=aE h
theorem inP_set{p:Nat->Int}(hp:InP p){f:Nat}{v:Int}(h0:0<=v)(h1:v<=topF f):InP (setF p f v):=fun g=>by
 by_cases h:g=f
 ·subst h;rw[setF_at];exact⟨h0,h1⟩
 ·rw[setF_ne h];exact hp g
theorem memK_at{p:Nat->Int}{k:Nat}(hk:k<=4)(e:Int)(A:List Bx):memK p k (atF (4-k) e A)=memK (setF p (4-k) e) (k+1) A:=by
 rw[memK_succ,setF_at]
 exact memK_congr zo fun f h4 h5=>(setF_ne zo).symm
theorem rest_ext{op:Bool->Bool->Bool}{k:Nat}(hk:k<=4){A W:List Bx}{u v:Int}(hA:∀p,InP p->memK (setF p (4-k) u) (k+1) A=memK (setF p (4-k) v) (k+1) A)(hW:∀p,InP p->memK (setF p (4-k) u) (k+1) W=memK (setF p (4-k) v) (k+1) W):restAt op k A W u=restAt op k A W v:=
 cano_ext op k _ _ _ _ zo (fun p hp=>by rw[memK_at hk,memK_at hk];exact hA p hp) (fun p hp=>by rw[memK_at hk,memK_at hk];exact hW p hp)
theorem rest_nil{op:Bool->Bool->Bool}{k:Nat}(hk:k<=4)(hop:op false false=false){A W:List Bx}{u:Int}(hA:∀p,InP p->op (memK (setF p (4-k) u) (k+1) A) (memK (setF p (4-k) u) (k+1) W)=false):restAt op k A W u=[]:=by
 have:restAt op k A W u=cano op k [] []:=cano_ext2 op op k _ _ _ _ zo fun p hp=>by rw[memK_at hk,memK_at hk,hA p hp,memK_nil,hop]
 rw[this]
 refine cano_dead op k _ _ fun p q h1 h2=>?_
 have e1:p=false:=by cases p with|false=>rfl|true=>exact absurd (h1 rfl) zd
 have e2:q=false:=by cases q with|false=>rfl|true=>exact absurd (h2 rfl) zd
 rw[e1,e2,hop]
theorem last_len(op:Bool->Bool->Bool)(a b:List Bx)(v:Int):(restAt op 0 a b v).length<=1:=by
 rw[restAt,cano];split<;>simp
theorem one_pt{k:Nat}(hk:k<=4){Y:List Bx}{r:Rg}(hr:r.lo<=r.hi){M:Nat}(h:∀p,InP p->memK p (k+1) Y=true->inR r (p (4-k))=true)
  (hc:∀p u v,InP p->inR r u=true->inR r v=true->0<=u->u<=topF (4-k)->0<=v->v<=topF (4-k)->memK (setF p (4-k) u) (k+1) Y=memK (setF p (4-k) v) (k+1) Y)
  (hM:∀u,inR r u=true->0<=u->u<=topF (4-k)->(cano orB k (atF (4-k) u Y) []).length<=M):(cano orB (k+1) Y []).length<=M:=by
 have:=cano_len_ranges orB k Y [] [r] (List.pairwise_singleton ..) (fun s hs=>by rw[aR.1 hs];exact hr) (fun _=>M)
  (fun v v0 v1 hv=>rest_nil hk rfl fun p hp=>by
   have hv:=hv r zx
   rw[memK_nil,orB,eK]
   cases hm:memK (setF p (4-k) v) (k+1) Y with
   |false=>rfl
   |true=>
    have:=h _ (inP_set hp v0 v1) hm
    rw[setF_at,hv]at this;cases this)
  (fun s hs u v hu hv u0 u1 v0 v1=>by
   rw[aR.1 hs]at hu hv
   exact rest_ext hk (fun p hp=>hc p u v hp hu hv u0 u1 v0 v1) fun p hp=>rfl)
  (fun s hs u hu u0 u1=>by
   rw[aR.1 hs]at hu
   exact hM u hu u0 u1)
 simpa using this
theorem has_day{d:Nat}(hd:d<7)(v:Int):has [mkR (1440*(d:Int)) (1440*d+1439)] v=(decide (1440*(d:Int)<=v)&&decide (v<=1440*(d:Int)+1439)):=by
 have m1:(mkR (1440*(d:Int)) (1440*d+1439)).lo=1440*d:=mkR_lo zo zo zo zo
 have m2:(mkR (1440*(d:Int)) (1440*d+1439)).hi=1440*d+1439:=mkR_hi zo zo zo zo
 have e:has [mkR (1440*(d:Int)) (1440*d+1439)] v=(decide ((mkR (1440*(d:Int)) (1440*d+1439)).lo<=v)&&decide (v<=(mkR (1440*(d:Int)) (1440*d+1439)).hi)):=by simp[has]
 rw[e,m1,m2]
theorem inter_exists(l:List Rg){d:Nat}(hd:d<7):∃c,Canon c/\∀v,has c v=(has l v&&(decide (1440*(d:Int)<=v)&&decide (v<=1440*(d:Int)+1439))):=by
 obtain⟨x,hx,ex⟩:=sub_ex l [mkR (1440*(d:Int)) (1440*d+1439)]
 obtain⟨y,hy,ey⟩:=sub_ex l x
 refine⟨y,hy,fun v=>?_⟩
 rw[ey,ex,has_day hd]
 cases has l v<;>cases (decide (1440*(d:Int)<=v)&&decide (v<=1440*(d:Int)+1439))<;>rfl
theorem dayW_ne{l:List Rg}(hc:Canon l)(ht:∀r,r∈l->r.hi<=10079)(hn:l≠[]):1<=cntW l 7:=by
 obtain⟨r,hr⟩:=List.exists_mem_of_ne_nil _ hn
 have h1:=hc.1 r hr
 have h2:=ht r hr
 have h0:=r.l0
 have hd:(r.lo/1440).toNat<7:=by omega
 have hx:dayW l (r.lo/1440).toNat≠[]:=by
  intro e
  have:=(canO_spec (inter_exists l hd)).2 r.lo
  rw[show canO (fun v=>has l v&&(decide (1440*(((r.lo/1440).toNat:Nat):Int)<=v)&&decide (v<=1440*(((r.lo/1440).toNat:Nat):Int)+1439)))=dayW l (r.lo/1440).toNat from rfl,e,has_nil,has_iff.2 ⟨r,hr,cD _,h1⟩,decide_eq_true zo,decide_eq_true zo]at this
  cases this
 have hl:=dC.2 hx
 have:=le_sum_nat (f:=fun d=>(dayW l d).length) (dK.2 hd)
 unfold cntW
 omega
noncomputable def fmtN(l:List Rg):Nat:=if l=[]then 1 else 3*cntW l 7-1
open Classical in
noncomputable def fmtL(l:List Rg):Nat:=if Canon l/\∀r,r∈l->r.hi<=10079 then fmtN l else 0
theorem dqForm(l:List Rg)(hl:l.length<=4000){K:KT}(hK:∀ss:List ByteArray,ss.length=fmtL l->K (.lst (ss.map encSt)) []):AC 216 [encRs l] [] K:=by
 refine gP (ofq9Form rfl rfl ?_)
 (repeat' ((conv=>whnf);first|(with_reducible refine cqWin l zo fun s hs=>?_)|(refine sl_full (by rfl) ?_)|refine zG ?_|apply zA|intro h|exact zT));all_goals conv=>whnf
 all_goals first
  |exact⟨_,gR,hK [] (by rw[fmtL,aE (fun hh=>by have:=hs.2 hh;simp_all)];rfl)⟩
  |exact⟨_,gM,hK [⟨#[110,101,118,101,114]⟩] (by
    have hl0:l=[]:=cE.1 (by simp only[aA]at*;omega)
    rw[fmtL,aH (hs.1 (by simp_all)),fmtN,aH hl0];rfl)⟩
  |skip
 have hv:Canon l/\∀r,r∈l->r.hi<=10079:=hs.1 (by simp_all)
 have hne:l≠[]:=fun e=>by subst e;simp_all
 rw[fmtL,aH hv,fmtN,aE hne]at hK
 refine gL (Nat×List ByteArray) (fun g=>⟨1,[(0,.arr 1 (g.2.map encSt))],[(0,encRs l),(3,.os 0 1 0 g.2.length),(4,.v (.int .i64 g.1))]⟩)
  (fun g=>g.1<=7/\g.2.length<=40000*g.1/\g.2.length=3*cntW l g.1-1) (fun g=>7-g.1) (0,[]) ⟨aL _,aL _,rfl⟩ ?_ ?_
 ·(exact leA)
 rintro⟨d,ss⟩ ⟨hd,hss,hsn⟩
 simp only at hd hss hsn⊢
 rcases aD d 7 with hd7|hd7
 ·have hint:∀{K:KT},(∀out,Canon out->(∀v,has out v=(has l v&&has [mkR (1440*d) (1440*d+1439)] v))->out.length<=2*(l.length+1)+1->K (encRs out) [])->AC 281 [encRs l,.lst [encR (mkR (1440*d) (1440*d+1439))]] [] K:=fun h=>c26 l [mkR (1440*d) (1440*d+1439)] zo zx h
  have m1:(mkR (1440*(d:Int)) (1440*d+1439)).lo=1440*d:=mkR_lo zo zo zo zo
  have m2:(mkR (1440*(d:Int)) (1440*d+1439)).hi=1440*d+1439:=mkR_hi zo zo zo zo
  have hint2:∀{K:KT},(∀out,Canon out->(∀v,has out v=(has l v&&has [mkR (1440*d) (1440*d+1439)] v))->out.length<=2*(l.length+1)+1->K (encRs out) [])->AC 281 [encRs l,.lst [.agg [.v (.int .u32 (1440*d)),.v (.int .u32 (1440*d+1439))]]] [] K:=fun h=>by
   have:=hint h
   simp only[encR,m1,m2]at this
   exact this
  (repeat' ((conv=>whnf);first|(with_reducible first|refine wr_i64 rfl zo zo ?_|refine wr_u32 rfl zo zo ?_)|(refine sl_full (by rfl) ?_)|(with_reducible refine hint2 fun out ho hh hn=>?_)|refine zG ?_|apply zA|intro h|exact zT));all_goals conv=>whnf
  have hday:dayW l d=out:=dayW_eq ho fun v=>by
   rw[hh v]
   rw[has_day hd7]
  have hcs:=cntW_succ l d
  rw[hday]at hcs
  refine gL (Nat×List ByteArray) (fun g=>⟨1,[(0,.arr 1 (g.2.map encSt))],[(0,encRs l),(3,.os 0 1 0 g.2.length),(4,.v (.int .i64 d)),(5,.v (.int .u32 (1440*d))),(6,encRs out),(7,.v (.int .i64 g.1))]⟩)
   (fun g=>g.1<=out.length/\g.2.length<=ss.length+3*g.1/\g.2.length=3*(cntW l d+g.1)-1) (fun g=>out.length-g.1) (0,ss) ⟨aL _,by simp only;omega,by simp only;omega⟩ ?_ ?_
  ·(exact leA)
  rintro⟨i,st⟩ ⟨hi,hst,hstn⟩
  simp only at hi hst hstn⊢
  rcases aD i out.length with hil|hil
  ·obtain⟨r,hr⟩:=gex hil
   have hrm:=aG hr
   have hle:=canon_le ho hrm
   have hb:∀v,r.lo<=v->v<=r.hi->1440*(d:Int)<=v/\v<=1440*d+1439:=fun v h1 h2=>by
    have h3:has out v=true:=has_iff.2 ⟨r,hrm,h1,h2⟩
    rw[hh]at h3
    simp only[aF]at h3
    obtain⟨q,hq,q1,q2⟩:=has_iff.1 h3.2
    simp only[aR]at hq
    subst hq
    rw[m1]at q1;rw[m2]at q2
    exact⟨q1,q2⟩
   have hb1:=hb r.lo (cD _) hle
   have hb2:=hb r.hi hle (cD _)
   have hT:∀(v:Int),0<=v->v<=2000->∀{K:KT},(∀s:ByteArray,s.size<=10000->K (.v (.string s)) [])->AC 283 [.v (.int .i64 v)] [] K:=fun v v0 v1 K h=>by
    obtain⟨n,rfl⟩:=dW v0
    exact cqText n zo fun s hs=>h s zo
   (repeat' ((conv=>whnf);first|refine zG ?_|apply zA|intro h|exact zT));all_goals conv=>whnf
   refine gU (List ByteArray) (fun g=>⟨1,[(0,.arr 1 (g.map encSt))],[(0,encRs l),(3,.os 0 1 0 g.length),(4,.v (.int .i64 d)),(5,.v (.int .u32 (1440*d))),(6,encRs out),(7,.v (.int .i64 i))]⟩) (fun g=>g.length<=st.length+1/\g.length=3*(cntW l d+i)) ?_ ?_
   ·(repeat' ((conv=>whnf);first|refine zG ?_|apply zA|intro h|exact zT));all_goals conv=>whnf
    ·refine⟨st++[⟨#[44]⟩],⟨by simp,by simp only[aC,aK,aP];omega⟩,?_⟩
     simp only[aQ,aC,aW,bN,aK,aP]
     (exact leA)
    ·refine⟨st,⟨by omega,by omega⟩,?_⟩
     (exact leA)
   rintro su ⟨hsu,hsun⟩
   have z1:(⟨#[45]⟩:ByteArray).size=1:=rfl
   have hd0:d<dayL.length:=hd7
   (repeat' ((conv=>whnf);first|(with_reducible first|refine cqDays ?_|refine hJ hd0 ?_|refine iA hd0 fun c hc=>?_|refine hJ hil ?_|refine gZ hr ?_|refine wr_u32 rfl zo zo ?_|refine wr_i64 rfl zo zo ?_|refine hT _ zo zo fun s hs=>?_|refine Ob.intro (by(try simp only[ByteArray.size_append]);omega) ?_)|refine zG ?_|apply zA|intro h|exact zT));all_goals conv=>whnf
   rename_i q1 q2 q3 sA hsA
   refine⟨(i+1,su++[c,sA++⟨#[45]⟩++s]),⟨by simp only;omega,by simp only[aC,aK,aP];omega,by simp only[aC,aK,aP];omega⟩,by simp only;omega,?_⟩
   simp only[aQ,aC,aW,bN,aK,aP,aO,aN]
   (exact leA)
  ·(repeat' ((conv=>whnf);first|refine zG ?_|apply zA|intro h|exact zT));all_goals conv=>whnf
   refine⟨(d+1,st),⟨by simp only;omega,by simp only;omega,by simp only;omega⟩,by simp only;omega,?_⟩
   rw[show(((d+1,st):Nat×List ByteArray).1:Int)=(d:Int)+1 from by simp only;omega]
   (exact leA)
 ·(repeat' ((conv=>whnf);first|(with_reducible refine sl_full (aA ..) ?_)|refine zG ?_|apply zA|intro h|exact zT));all_goals conv=>whnf
  exact⟨_,gM,hK ss (by rw[hsn,show d=7 by omega])⟩
theorem win_iff{l:List Rg}:WinOk l↔(Canon l/\∀r,r∈l->r.hi<=10079)/\fmtN l<=47:=by
 constructor
 ·intro h
  refine⟨⟨h.can,h.top⟩,?_⟩
  have:=h.few
  unfold fmtN;split<;>omega
 ·rintro⟨⟨h1,h2⟩,h3⟩
  refine⟨h1,h2,?_⟩
  unfold fmtN at h3
  by_cases hl:l=[]
  ·subst hl
   have e:∀d,dayW [] d=[]:=fun d=>dayW_eq canon_nil fun v=>by rw[has_nil];rfl
   unfold cntW
   simp only[e,aP]
   decide
  ·rw[aE hl]at h3;omega
theorem djWri(l:List Rg)(hl:l.length<=4000){K:KT}(hK:K (.sb (winB l)) []):AC 122 [encRs l] [] K:=by
 refine gO (ofj16Wri rfl rfl ?_)
 (repeat' ((conv=>whnf);first|(with_reducible first|refine cqWin l zo fun s hs=>?_|refine dqForm l hl fun ss hss=>?_)|refine zG ?_|apply zA|intro h|exact zT));all_goals conv=>whnf
 ·refine fin_s hK ?_
  rw[fmtL,aH (hs.1 h)]at hss
  rw[bD,winB_iff,win_iff,aI,aA]
  have:=hs.1 h
  constructor
  ·rintro⟨_,h2⟩;omega
  ·intro h2;exact⟨this,by omega⟩
 ·refine fin_f hK ?_
  rw[bV,ne_eq,winB_iff,win_iff]
  rintro⟨h1,_⟩
  rw[hs.2 h1]at h;cases h
theorem djOpt(s:ByteArray){K:KT}(hK:K (.sb (optB s)) []):AC 217 [.v (.string s)] [] K:=by
 refine gO (ofj16Opt rfl rfl ?_)
 (repeat' ((conv=>whnf);first|(with_reducible refine crName _ ?_)|refine zG ?_|apply zA|intro h|exact zT));all_goals conv=>whnf
 ·exact fin_t hK (by unfold optB sEq;simp_all)
 ·exact fin_s hK (by unfold optB sEq;simp_all)
theorem djPort(n:Int){K:KT}(hK:K (.sb (ptB n)) []):AC 124 [.v (.int .i64 n)] [] K:=by
 refine gO (ofj16Port rfl rfl ?_)
 (repeat' ((conv=>whnf);first|refine zG ?_|apply zA|intro h|exact zT));all_goals conv=>whnf
 ·exact fin_s hK (by unfold ptB;simp_all)
 ·exact fin_f hK (by unfold ptB;rw[decide_eq_false zo];rfl)
theorem djPorts(lo hi n:Int){K:KT}(hK:K (.sb (decide (n<=lo/\lo<=hi/\hi<=65535))) []):AC 125 [.agg [.v (.int .u32 lo),.v (.int .u32 hi)],.v (.int .u32 n)] [] K:=by
 refine gO (ofj16Ports rfl rfl ?_)
 (repeat' ((conv=>whnf);first|refine zG ?_|apply zA|intro h|exact zT));all_goals conv=>whnf
 all_goals first
  |exact fin_s hK (by rw[bD];simp_all)
  |exact fin_f hK (decide_eq_false zo)
theorem djFind(l:List Df)(s:ByteArray)(hl:l.length<=1000){K:KT}(hK:K (.v (.int .i64 (dfIx l s))) []):AC 213 [.lst (l.map encDf),.v (.string s)] [] K:=by
 unfold dfIx at hK
 refine ofj16Find rfl rfl ?_
 (repeat' ((conv=>whnf);first|refine zG ?_|apply zA|intro h|exact zT));all_goals conv=>whnf
 refine gL Nat (fun i=>⟨0,[],[(0,.lst (l.map encDf)),(1,.v (.string s)),(5,.v (.int .i64 i))]⟩) (fun i=>i<=l.length/\∀(j:Nat) y,j<i->l[j]? =some y->sEq y.name s=false) (fun i=>l.length-i) 0 ⟨aL _,fun i y hi=>absurd hi (aY _)⟩ ?_ ?_
 ·(exact leA)
 intro i ⟨hi,hinv⟩
 rcases aD i l.length with hil|hil
 ·obtain⟨x,hx⟩:=gex hil
  (repeat' ((conv=>whnf);first|(with_reducible first|refine hJ hil ?_|refine gZ hx ?_)|refine zG ?_|apply zA|intro h|exact zT));all_goals conv=>whnf
  ·rw[firstIx_at (p:=fun d=>sEq d.name s) hx (show sEq x.name s=true from h) hinv]at hK
   exact hK
  ·refine⟨i+1,⟨hil,before_succ (p:=fun d:Df=>sEq d.name s) hx h hinv⟩,by omega,?_⟩
   rw[aO,aN]
   (exact leA)
 ·(repeat' ((conv=>whnf);first|refine zG ?_|apply zA|intro h|exact zT));all_goals conv=>whnf
  rw[firstIx_none (p:=fun d=>sEq d.name s) (iB hil hinv)]at hK
  exact hK
theorem djFindW(l:List Wn)(s:ByteArray)(hl:l.length<=1000){K:KT}(hK:K (.v (.int .i64 (wnIx l s))) []):AC 81 [.lst (l.map encWn),.v (.string s)] [] K:=by
 unfold wnIx at hK
 refine ofj16FindW rfl rfl ?_
 (repeat' ((conv=>whnf);first|refine zG ?_|apply zA|intro h|exact zT));all_goals conv=>whnf
 refine gL Nat (fun i=>⟨0,[],[(0,.lst (l.map encWn)),(1,.v (.string s)),(5,.v (.int .i64 i))]⟩) (fun i=>i<=l.length/\∀(j:Nat) y,j<i->l[j]? =some y->sEq y.name s=false) (fun i=>l.length-i) 0 ⟨aL _,fun i y hi=>absurd hi (aY _)⟩ ?_ ?_
 ·(exact leA)
 intro i ⟨hi,hinv⟩
 rcases aD i l.length with hil|hil
 ·obtain⟨x,hx⟩:=gex hil
  (repeat' ((conv=>whnf);first|(with_reducible first|refine hJ hil ?_|refine gZ hx ?_)|refine zG ?_|apply zA|intro h|exact zT));all_goals conv=>whnf
  ·rw[firstIx_at (p:=fun d=>sEq d.name s) hx (show sEq x.name s=true from h) hinv]at hK
   exact hK
  ·refine⟨i+1,⟨hil,before_succ (p:=fun d:Wn=>sEq d.name s) hx h hinv⟩,by omega,?_⟩
   rw[aO,aN]
   (exact leA)
 ·(repeat' ((conv=>whnf);first|refine zG ?_|apply zA|intro h|exact zT));all_goals conv=>whnf
  rw[firstIx_none (p:=fun d=>sEq d.name s) (iB hil hinv)]at hK
  exact hK
theorem eqw_It{k k' pa pb qa qb pr pr' lo hi lo' hi':Int}{n n':ByteArray}{K:Bool->Prop}(hk:K (decide (k=k')&&(sEq n n'&&decide (pa=qa/\pb=qb/\pr=pr'/\lo=lo'/\hi=hi')))):EqV Tryz.prog 113 [.v (.int .i64 k),.v (.string n),.v (.int .u32 pa),.v (.int .i64 pb),.v (.int .i64 pr),.v (.int .u32 lo),.v (.int .u32 hi)]
  [.v (.int .i64 k'),.v (.string n'),.v (.int .u32 qa),.v (.int .i64 qb),.v (.int .i64 pr'),.v (.int .u32 lo'),.v (.int .u32 hi')] K:=by
 refine eqv_of (b:=(k==k'&&(n.toList==n'.toList&&((pa==qa&&(pb==qb&&true))&&(pr==pr'&&((lo==lo'&&(hi==hi'&&true))&&true)))))) rfl rfl zk zk ?_
 have e:(k==k'&&(n.toList==n'.toList&&((pa==qa&&(pb==qb&&true))&&(pr==pr'&&((lo==lo'&&(hi==hi'&&true))&&true)))))=(decide (k=k')&&(sEq n n'&&decide (pa=qa/\pb=qb/\pr=pr'/\lo=lo'/\hi=hi'))):=by
  unfold sEq
  rw[bD]
  simp only[aF,beq_iff_eq,aI,and_true,and_assoc]
 rw[e];exact hk
theorem eqw_Rg{lo hi lo' hi':Int}{K:Bool->Prop}(hk:K (decide (lo=lo'/\hi=hi'))):EqV Tryz.prog 111 [.v (.int .u32 lo),.v (.int .u32 hi)] [.v (.int .u32 lo'),.v (.int .u32 hi')] K:=by
 refine eqv_of (b:=(lo==lo'&&(hi==hi'&&true))) rfl rfl zk zk ?_
 have e:(lo==lo'&&(hi==hi'&&true))=decide (lo=lo'/\hi=hi'):=by
  rw[bD]
  simp only[aF,beq_iff_eq,aI,and_true]
 rw[e];exact hk
theorem sEq_self(s:ByteArray):sEq s s=true:=by unfold sEq;simp
theorem djItem(x:It)(g:Bool){K:KT}(hK:K (.sb (itB x g)) []):AC 214 [encIt x,.sb g] [] K:=by
 refine gO (ofj16Item rfl rfl ?_)
 have hs:=sEq_self x.name
 (repeat' ((conv=>whnf);first|(with_reducible first|refine crName _ ?_|refine crVal x.pf ?_|refine djPorts _ _ _ ?_)|(refine eqw_It ?_)|(refine eqw_Rg ?_)|refine zG ?_|apply zA|intro h|exact zT));all_goals conv=>whnf
 all_goals first
  |refine fin_t hK ?_
  |refine fin_f hK ?_
  |refine fin_s hK ?_
 all_goals
  unfold itB
  have hl0:=x.ports.l0
  simp_all[itN,itP,itS,prB]
 all_goals first
  |omega
  |(rw[aE zo,aE zo];intros;omega)
theorem sEq_eq{a b:ByteArray}(h:sEq a b=true):a=b:=by
 rw[sEq_data]at h
 have h:=of_decide_eq_true (by simpa using h:decide (a.data.toList=b.data.toList)=true)
 exact ByteArray.ext (Array.ext' h)
def findD(l:List Df)(s:ByteArray):Option Nat:=l.findIdx? fun d=>sEq d.name s
theorem findD_some{l:List Df}{s:ByteArray}{n:Nat}(h:findD l s=some n):∃d,l[n]? =some d/\d.name=s/\n<l.length:=by
 unfold findD at h
 rw[dM]at h
 obtain⟨h1,h2,_⟩:=h
 exact⟨_,aB h1,sEq_eq h2,h1⟩
theorem firstIx_find(l:List Df)(s:ByteArray):firstIx (fun d=>sEq d.name s) l=match findD l s with
  |some n=>(n:Int)
  |none=> -1:=rfl
section
variable {S:Type} (v:It->S->Int×S)
def folI(rec:ByteArray->List Nat->S->Int×List Nat×S):List It->List Nat->S->Int×List Nat×S
 |[],d,s=>(0,d,s)
 |x::r,d,s=>
  let q:=if x.kind=3 then rec x.name d s else((v x s).1,d,(v x s).2)
  if q.1=0 then folI rec r q.2.1 q.2.2 else q
def fol(l:List Df):Nat->List Nat->ByteArray->List Nat->S->Int×List Nat×S
 |0,_,_,d,s=>(8,d,s)
 |k+1,p,nm,d,s=>match findD l nm with
  |none=>(5,d,s)
  |some n=>if n∈p then(8,d,s)else if n∈d then(0,d,s)else
   let q:=folI v (fol l k (p++[n])) (((l[n]?).map (·.items)).getD []) d s
   if q.1=0 then(0,q.2.1++[n],q.2.2)else q
theorem folI_nil(rec:ByteArray->List Nat->S->Int×List Nat×S)(d:List Nat)(s:S):folI v rec [] d s=(0,d,s):=rfl
theorem folI_cons(rec:ByteArray->List Nat->S->Int×List Nat×S)(x:It)(r:List It)(d:List Nat)(s:S):folI v rec (x::r) d s=
  if(if x.kind=3 then rec x.name d s else((v x s).1,d,(v x s).2)).1=0 then folI v rec r (if x.kind=3 then rec x.name d s else((v x s).1,d,(v x s).2)).2.1 (if x.kind=3 then rec x.name d s else((v x s).1,d,(v x s).2)).2.2
  else(if x.kind=3 then rec x.name d s else((v x s).1,d,(v x s).2)):=rfl
end
open Classical in
noncomputable def nameM(l:List Df)(p:List Nat):Value->Option AV:=fun k=>if ∃n d,n∈p/\l[n]? =some d/\k=.string d.name then some (.sb true)else none
def Firsts(l:List Df)(p:List Nat):Prop:=∀n,n∈p->∀d,l[n]? =some d->findD l d.name=some n
theorem Firsts.nil{l:List Df}:Firsts l []:=fun n h=>by cases h
theorem Firsts.snoc{l:List Df}{p:List Nat}{s:ByteArray}{n:Nat}(h:Firsts l p)(hn:findD l s=some n):Firsts l (p++[n]):=fun m hm d hd=>by
 rcases aU.1 hm with hm|hm
 ·exact h m hm d hd
 ·rw[aR.1 hm]at hd⊢
  obtain⟨d',h1,h2,_⟩:=findD_some hn
  rw[hd]at h1;cases h1
  rw[h2];exact hn
theorem nameM_in{l:List Df}{p:List Nat}{s:ByteArray}{n:Nat}(hn:findD l s=some n)(h:n∈p):nameM l p (.string s)=some (.sb true):=by
 obtain⟨d,h1,h2,_⟩:=findD_some hn
 rw[nameM,aH ⟨n,d,h,h1,by rw[h2]⟩]
theorem nameM_out{l:List Df}{p:List Nat}{s:ByteArray}{n:Nat}(hf:Firsts l p)(hn:findD l s=some n)(h:n∉p):nameM l p (.string s)=none:=by
 rw[nameM,aE]
 rintro⟨m,d,h1,h2,h3⟩
 have e:s=d.name:=by simpa using h3
 have:=hf m h1 d h2
 rw[<-e,hn]at this
 cases this
 exact h h1
theorem nameM_nil(l:List Df):(fun _=>none)=nameM l []:=by
 funext k
 rw[nameM,aE]
 rintro⟨n,d,h,_⟩;cases h
theorem updM_name{l:List Df}{p:List Nat}{s:ByteArray}{n:Nat}(hn:findD l s=some n):nameM l (p++[n])=updM (nameM l p) (.string s) (.sb true):=by
 obtain⟨d,h1,h2,_⟩:=findD_some hn
 funext k
 unfold updM
 split
 ·rename_i e
  rw[e,nameM_in hn zx]
 ·rename_i e
  unfold nameM
  have:(∃m d,m∈p++[n]/\l[m]? =some d/\k=.string d.name)↔∃m d,m∈p/\l[m]? =some d/\k=.string d.name:=by
   constructor
   ·rintro⟨m,d',g1,g2,g3⟩
    rcases aU.1 g1 with g1|g1
    ·exact⟨m,d',g1,g2,g3⟩
    ·rw[aR.1 g1,h1]at g2;cases g2
     exact absurd (g3.trans (by rw[h2])) e
   ·rintro⟨m,d',g1,g2,g3⟩
    exact⟨m,d',cN _ g1,g2,g3⟩
  by_cases hx:∃m d,m∈p/\l[m]? =some d/\k=.string d.name
  ·rw[aH hx,aH (this.2 hx)]
  ·rw[aE hx,aE (fun h=>hx (this.1 h))]
theorem delM_name{l:List Df}{p:List Nat}{s:ByteArray}{n:Nat}(hf:Firsts l p)(hn:findD l s=some n)(h:n∉p):nameM l p=delM (nameM l (p++[n])) (.string s):=by
 funext k
 unfold delM
 split
 ·rename_i e
  rw[e,nameM_out hf hn h]
 ·rename_i e
  rw[updM_name hn,updM,aE e]
structure Fine (l:List Df) (p d:List Nat):Prop where
 pn:p.Nodup
 dn:d.Nodup
 pf:Firsts l p
 df:Firsts l d
 pl:∀n,n∈p->n<l.length
 dl:∀n,n∈d->n<l.length
 dj:∀n,n∈p->n∉d
theorem Fine.push{l:List Df}{p d:List Nat}{s:ByteArray}{n:Nat}(h:Fine l p d)(hn:findD l s=some n)(hp:n∉p)(hd:n∉d):Fine l (p++[n]) d:=
 ⟨eG.2 ⟨h.pn,by simp,fun a ha b hb e=>by rw[aR.1 hb]at e;exact hp (e▸ha)⟩,h.dn,h.pf.snoc hn,h.df,fun m hm=>by
  rcases aU.1 hm with hm|hm
  ·exact h.pl m hm
  ·rw[aR.1 hm];exact(findD_some hn).choose_spec.2.2,h.dl,fun m hm=>by
  rcases aU.1 hm with hm|hm
  ·exact h.dj m hm
  ·rw[aR.1 hm];exact hd⟩
theorem Fine.pop{l:List Df}{p d:List Nat}{s:ByteArray}{n:Nat}(h:Fine l (p++[n]) d)(hn:findD l s=some n):Fine l p (d++[n]):=by
 have hnd:n∉d:=h.dj n zx
 have hp:=eG.1 h.pn
 exact⟨hp.1,eG.2 ⟨h.dn,by simp,fun a ha b hb e=>by rw[aR.1 hb]at e;exact hnd (e▸ha)⟩,fun m hm=>h.pf m (cN _ hm),h.df.snoc hn,
  fun m hm=>h.pl m (cN _ hm),fun m hm=>by
   rcases aU.1 hm with hm|hm
   ·exact h.dl m hm
   ·rw[aR.1 hm];exact h.pl n zx,fun m hm hmd=>by
   rcases aU.1 hmd with hmd|hmd
   ·exact h.dj m (cN _ hm) hmd
   ·exact hp.2.2 m hm n zx (aR.1 hmd)⟩
theorem nodupLe{l:List Nat}{m:Nat}(h:l.Nodup)(hb:∀x,x∈l->x<m):l.length<=m:=by
 have:=nodup_sub (l:=l.map fun n:Nat=>(n:Int)) (m:=(List.range m).map fun n:Nat=>(n:Int)) (by
  unfold List.Nodup at*
  rw[List.pairwise_map]
  exact h.imp fun hab e=>hab zo) (fun x hx=>by
  obtain⟨n,hn,rfl⟩:=bK.1 hx
  exact bK.2 ⟨n,dK.2 (hb n hn),rfl⟩)
 simpa using this
theorem Fine.small{l:List Df}{p d:List Nat}(h:Fine l p d):d.length+p.length<=l.length:=by
 have h1:(d++p).Nodup:=eG.2 ⟨h.dn,h.pn,fun a ha b hb e=>h.dj b hb (e▸ha)⟩
 have h2:∀n,n∈d++p->n<l.length:=fun n hn=>by
  rcases aU.1 hn with hn|hn
  ·exact h.dl n hn
  ·exact h.pl n hn
 have h3:=nodupLe h1 h2
 rw[aC]at h3
 exact h3
section
variable {S:Type} (v:It->S->Int×S) (sz:S->Nat) (hv:∀x s,(v x s).1=0->sz (v x s).2<=sz s+1000)
structure Fed (l:List Df) (p d:List Nat) (s:S) (d':List Nat) (s':S) (c:Nat):Prop where
 fine:Fine l p d'
 le:d.length<=d'.length
 size:sz s'+1000000*d.length<=sz s+1000000*d'.length+c
include hv
theorem folI_fed{l:List Df}{p:List Nat}{rec:ByteArray->List Nat->S->Int×List Nat×S}(hrec:∀nm d s,Fine l p d->(rec nm d s).1=0->Fed sz l p d s (rec nm d s).2.1 (rec nm d s).2.2 0):
  ∀(its:List It) (d:List Nat) (s:S),Fine l p d->(folI v rec its d s).1=0->Fed sz l p d s (folI v rec its d s).2.1 (folI v rec its d s).2.2 (1000*its.length)
 |[],d,s,hf,_=>⟨hf,aJ _,by simp[folI]⟩
 |x::r,d,s,hf,h=>by
  rw[folI_cons]at h⊢
  have hq:(if x.kind=3 then rec x.name d s else((v x s).1,d,(v x s).2)).1=0->Fed sz l p d s (if x.kind=3 then rec x.name d s else((v x s).1,d,(v x s).2)).2.1 (if x.kind=3 then rec x.name d s else((v x s).1,d,(v x s).2)).2.2 1000:=by
   by_cases hk:x.kind=3
   ·rw[aH hk]
    intro h0
    have:=hrec x.name d s hf h0
    exact⟨this.fine,this.le,by have:=this.size;omega⟩
   ·rw[aE hk]
    intro h0
    exact⟨hf,aJ _,by have:=hv x s h0;simp only;omega⟩
  generalize (if x.kind=3 then rec x.name d s else((v x s).1,d,(v x s).2))=q at*
  by_cases h0:q.1=0
  ·rw[aH h0]at h⊢
   have hq:=hq h0
   have h2:=folI_fed hrec r q.2.1 q.2.2 hq.fine h
   exact⟨h2.fine,bO hq.le h2.le,by have:=hq.size;have:=h2.size;rw[aK];omega⟩
  ·rw[aE h0]at h;exact absurd h h0
theorem fol_fed(l:List Df)(hit:∀d,d∈l->d.items.length<=999):∀(k:Nat) (p:List Nat) (nm:ByteArray) (d:List Nat) (s:S),Fine l p d->(fol v l k p nm d s).1=0->
  Fed sz l p d s (fol v l k p nm d s).2.1 (fol v l k p nm d s).2.2 0
 |0,p,nm,d,s,hf,h=>by simp[fol]at h
 |k+1,p,nm,d,s,hf,h=>by
  unfold fol at h⊢
  cases hn:findD l nm with
  |none=>simp[hn]at h
  |some n=>
   simp only[hn]at h⊢
   split at h
   ·simp at h
   rename_i hp
   rw[aE hp]
   split at h
   ·rename_i hd
    rw[aH hd]
    exact⟨hf,aJ _,by simp⟩
   rename_i hd
   rw[aE hd]
   obtain⟨df,hdf,_⟩:=findD_some hn
   simp only[hdf,cZ,cW]at h⊢
   have hpush:=hf.push hn hp hd
   split at h
   ·rename_i h0
    rw[aH h0]
    have h1:=folI_fed v sz hv (fun nm d s hf h=>fol_fed l hit k (p++[n]) nm d s hf h) df.items d s hpush h0
    have hlen:=hit df (aG hdf)
    exact⟨h1.fine.pop hn,by rw[aC];have:=h1.le;omega,by have:=h1.size;simp only[aC,bZ];omega⟩
   ·rename_i h0;exact absurd h h0
end
end Go.Proofs.YtbdikofefjljoaaGreatDoor
