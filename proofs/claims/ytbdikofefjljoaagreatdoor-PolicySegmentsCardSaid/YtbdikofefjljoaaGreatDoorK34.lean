/- A group has exactly the addresses of its items. -/
import Derived.Test.YtbdikofefjljoaaGreatDoorK33
set_option linter.unusedVariables false
set_option linter.unusedSimpArgs false
set_option maxRecDepth 100000
set_option maxHeartbeats 4000000
namespace Go.Proofs.YtbdikofefjljoaaGreatDoor
open Go Go.Vm
theorem eyCont(l:List Bx)(g:Hd)(ho:g.Ok)(hl:l.length<1000000000){K:KT}(hK:K (.sb (l.any fun b=>conB b g)) []):ACall Tryz.prog 22 [encXs l,encHd g] [] K:=by
 refine ACall.bool (ofnCont rfl rfl ?_)
 (repeat' ((conv=>whnf);first|refine zG ?_|apply zA|(apply zI;intro h)|exact zT));(all_goals conv=>whnf)
 refine Lp.intro Nat (fun i=>⟨1,[(0,.box [.v (.int .u32 g.src),.v (.int .u32 g.dst),.v (.int .u8 g.pro),.v (.int .u16 g.sp),.v (.int .u16 g.dp)])],[(0,encXs l),(3,.op 0 0),(5,.v (.int .i64 i))]⟩) (fun i=>i<=l.length/\∀(j:Nat) x,j<i->l[j]? =some x->conB x g=false) (fun i=>l.length-i) 0 ⟨Nat.zero_le _,fun j x h=>absurd h (Nat.not_lt_zero _)⟩ ?_ ?_
 ·(exact leA)
 intro i ⟨hi,hinv⟩
 rcases Nat.lt_or_ge i l.length with hil|hil
 ·obtain⟨x,hx⟩:=gex hil
  (repeat' ((conv=>whnf);first|(with_reducible first|refine in_map hil ?_|refine ix_map hx ?_|refine cvCon x g ho ?_)|refine zG ?_|apply zA|(apply zI;intro h)|exact zT));(all_goals conv=>whnf)
  all_goals first
   |exact fin_t hK (List.any_eq_true.2 ⟨x,List.mem_of_getElem? hx,h⟩)
   |(refine⟨i+1,⟨hil,all_succ hx (by simpa using h) hinv⟩,by omega,?_⟩
     rw[Int.natCast_add,Int.natCast_one]
     (exact leA)
     done)
 ·(repeat' ((conv=>whnf);first|refine zG ?_|apply zA|(apply zI;intro h)|exact zT));(all_goals conv=>whnf)
  refine fin_f hK ?_
  rw[Bool.eq_false_iff,ne_eq,List.any_eq_true]
  rintro⟨x,hx,hc⟩
  obtain⟨j,hj⟩:=List.mem_iff_getElem?.1 hx
  have:=before_all hil hinv j x hj
  rw[hc]at this;cases this
theorem con_mem{X:List Bx}(hs:setB X=true){g:Hd}(ho:g.Ok):(X.any fun b=>conB b g)=memK (hdQ g) 5 X:=by
 rw[Bool.eq_iff_iff,List.any_eq_true,memK_iff]
 refine exists_congr fun b=>and_congr_right fun hb=>?_
 have hok:=okL_ok (okL_set hs) hb
 rw[conB_iff,inK_iff]
 constructor
 ·rintro⟨h0,h1,h2,h3,h4,_⟩ f hf
  obtain rfl|rfl|rfl|rfl|rfl:f=0\/f=1\/f=2\/f=3\/f=4:=by omega
  ·exact h0
  ·exact h1
  ·exact h2
  ·exact h3
  ·exact h4
 ·intro h
  exact⟨h 0 zo,h 1 zo,h 2 zo,h 3 zo,h 4 zo,hok⟩
theorem ACall_fin{P:Program}{f:FuncId}{args:List AV}{hs:List Vm.Obj}{K:KT}(h:ACall P f args hs fun v hs'=>finQ hs.length (enumH 0 hs') v K):ACall P f args hs K:=by
 obtain⟨h1,h2⟩:=h.elim
 refine ACall.intro h1 fun ι E w vals r hv=>(h2 ι E w vals r hv).mono ?_
 rintro e w' ⟨v,rr,hs',ι',E',he,hq,hr,hrel,hx⟩
 obtain⟨y,hs2,ι2,E2,k1,k2,k3,k4⟩:=finQ_sound hr (ι0:=ι) (fun id hid=>r.fresh id hid) hx.ex hrel hq
 exact⟨v,y,hs2,ι2,E2,he,k1,k2,k3,k4⟩
/-! ### Unions of ranges out of a list -/
theorem canon_start{c:List Rg}(hc:Canon c){r:Rg}(hr:r∈c):has c r.lo=true/\has c (r.lo-1)=false:=by
 have hle:=hc.1 r hr
 refine⟨has_iff.2 ⟨r,hr,Int.le_refl _,hle⟩,?_⟩
 rw[Bool.eq_false_iff,ne_eq,has_iff]
 rintro⟨q,hq,q1,q2⟩
 obtain⟨i,hi,rfl⟩:=List.mem_iff_getElem.1 hr
 obtain⟨j,hj,rfl⟩:=List.mem_iff_getElem.1 hq
 have hp:=List.pairwise_iff_getElem.1 hc.2
 rcases Nat.lt_trichotomy i j with hij|hij|hij
 ·have:=hp i j hi hj hij;omega
 ·subst hij;omega
 ·have:=hp j i hj hi hij;omega
theorem los_nodup{c:List Rg}(hc:Canon c):(c.map fun r=>r.lo).Nodup:=by
 unfold List.Nodup
 rw[List.pairwise_map]
 refine List.Pairwise.imp_of_mem ?_ hc.2
 intro a b ha _ hab e
 have:=hc.1 a ha;omega
theorem grpP_err(t:Tp)(i:Nt)(nm:ByteArray):(grpP t i nm).2=0\/(grpP t i nm).2=5\/(grpP t i nm).2=8:=by
 have:=grpE_err t i.grps nm
 unfold grpP
 split
 ·exact .inl rfl
 ·exact this
section
variable {I:List (Int×Rg)}
end
theorem enTop3f(raw:List Int)(pos:Nat)(hp:pos<=raw.length)(hr:raw.length<=9223372036854775807){K:KT}
  (hK:∀(t:Tp) (pos':Nat),GTop t->t.devs.length<=3->pos'<=raw.length->K (encT t) [tapeO raw pos']):
  ACall Tryz.prog 43 [.op 0 0,.v (.int .i64 3)] [tapeO raw pos] K:=by
 refine ACall_fin (cnTop raw pos 3 zd hp hr fun t p h1 h2 h3=>?_)
 (repeat' ((conv=>whnf);first|(with_reducible refine sl_full (List.length_map ..) ?_)|refine zG ?_|apply zA|(apply zI;intro h)|exact zT));(all_goals conv=>whnf)
 exact hK t p h1 zo h3
theorem bindE_set{α:Type}{x:α×Int}{k:α->List Bx×Int}(h:setB (k x.1).1=true):setB (bindE x k).1=true:=by
 unfold bindE
 split
 ·exact setB_nil
 ·exact h
theorem stmP_set(t:Tp)(i:Nt)(s:Sm):setB (stmP t i s).1=true:=by
 unfold stmP
 refine bindE_set (bindE_set (bindE_set (bindE_set (bindE_set (bindE_set ?_)))))
 split
 ·exact setB_combP ..
 ·exact bindE_set (setB_combP ..)
def realH(t:Tp)(g:Hd):Bool:=decide (0<=edgeAt t g.src/\0<=edgeAt t g.dst/\edgeAt t g.src≠edgeAt t g.dst)&&initS.any fun b=>conB b g
noncomputable def decH(t:Tp)(i:Nt)(m:Int)(g:Hd):Option Nat:=if realH t g=true then(ordP i m).find? (hitN t i (hdQ g))else none
noncomputable def decV(t:Tp)(i:Nt)(m:Int)(g:Hd):Bool×Int:=if preV t i m≠0 then(false,-1)else match decH t i m g with
 |some n=>(perN i n,(n:Int))
 |none=>(false,-1)
theorem pre_ok{t:Tp}{i:Nt}{m:Int}(h:preV t i m=0):(compB t=true/\ntB i=true)/\(0<=m/\m<10080)/\chkP t i=0:=by
 unfold preV at h
 have hcn:compB t=true/\ntB i=true:=Decidable.byContradiction fun h'=>by rw[if_neg h']at h;cases h
 rw[if_pos hcn]at h
 have hmm:0<=m/\m<10080:=Decidable.byContradiction fun h'=>by rw[if_neg h']at h;cases h
 rw[if_pos hmm]at h
 exact⟨hcn,hmm,h⟩
theorem hit_con{t:Tp}{i:Nt}{n:Nat}{x:Sm}(hx:i.sts[n]? =some x){g:Hd}(ho:g.Ok):((stmP t i x).1.any fun b=>conB b g)=hitN t i (hdQ g) n:=by
 rw[con_mem (stmP_set t i x) ho];simp[hitN,hx]
theorem findQ_drop{α:Type}{p:α->Bool}:∀{l:List α} {k:Nat},(∀(j:Nat) x,j<k->l[j]? =some x->p x=false)->l.find? p=(l.drop k).find? p
 |[],k,_=>by simp
 |x::l,0,_=>rfl
 |x::l,k+1,h=>by
  rw[List.find?_cons,h 0 x zo rfl,List.drop_succ_cons]
  exact findQ_drop fun j y hj hy=>h (j+1) y zo (by simpa using hy)
theorem findQ_at{α:Type}{p:α->Bool}{l:List α}{k:Nat}{x:α}(hx:l[k]? =some x)(hp:p x=true)(h:∀(j:Nat) x,j<k->l[j]? =some x->p x=false):l.find? p=some x:=by
 have hk:=(List.getElem?_eq_some_iff.1 hx).1
 rw[findQ_drop h,List.drop_eq_getElem_cons hk]
 rw[List.getElem?_eq_getElem hk]at hx
 rw[Option.some.inj hx,List.find?_cons,hp]
theorem findQ_no{α:Type}{p:α->Bool}{l:List α}(h:∀(j:Nat) x,l[j]? =some x->p x=false):l.find? p=none:=by
 rw[List.find?_eq_none]
 intro x hx
 obtain⟨j,hj⟩:=List.mem_iff_getElem?.1 hx
 simp[h j x hj]
theorem coDec(t:Tp)(ht:t.edges.length<1000)(hd:t.devs.length<1000)(i:Nt)(hb:Bnd i)(hs:i.sts.length<=12)(m:Int)(g:Hd)(ho:g.Ok){K:KT}
  (hK:K (.tup [.sb (decV t i m g).1,.v (.int .i64 (decV t i m g).2)]) []):ACall Tryz.prog 21 [encT t,encNt i,.v (.int .i64 m),encHd g] [] K:=by
 have hKf:decV t i m g=(false,-1)->∃y,Weak (.tup [.v (.bool false),.v (.int .i64 (-1))]) y/\K y []:=fun he=>by
  rw[he]at hK
  exact⟨_,Weak.tup2 Weak.bool Weak.refl,hK⟩
 refine ACall.weak (ofoDec rfl rfl ?_)
 by_cases hp:preV t i m=0
 case neg=>
  have hz:decV t i m g=(false,-1):=by rw[decV,if_pos hp]
  (repeat' ((conv=>whnf);first|(with_reducible refine coChk t ht hd i hb m ?_)|refine zG ?_|apply zA|(apply zI;intro h)|exact zT));(all_goals conv=>whnf)
  all_goals first
   |exact hKf hz
   |exact absurd zw hp
 obtain⟨hcn,hmm,hch⟩:=pre_ok hp
 have hord:ordV i m=ordP i m:=by rw[ordV,if_pos ⟨hcn.2,hmm⟩]
 have hchk:∀{K:KT},K (.v (.int .i64 0)) []->ACall Tryz.prog 46 [encT t,encNt i,.v (.int .i64 m)] [] K:=fun h=>coChk t ht hd i hb m (by rw[hp];exact h)
 have hoc:∀{K:KT},K (.lst ((ordP i m).map vN)) []->ACall Tryz.prog 37 [encNt i,.v (.int .i64 m)] [] K:=fun h=>coOrd i hb hs m (by rw[hord];exact h)
 have hv:decV t i m g=match decH t i m g with
  |some n=>(perN i n,(n:Int))
  |none=>(false,-1):=by rw[decV,if_neg zo]
 (repeat' ((conv=>whnf);first|(with_reducible first|refine hchk ?_|refine coTAt t g.src ho.s0 ho.s1 zo ?_|refine coTAt t g.dst ho.d0 ho.d1 zo ?_|refine cxInit ?_|refine coPCon initS g ho zd ?_|refine hoc ?_)|refine zG ?_|apply zA|(apply zI;intro h)|exact zT));(all_goals conv=>whnf)
 all_goals first
  |(refine hKf (by
     rw[hv,decH,if_neg (by
      rw[realH,Bool.and_eq_true,decide_eq_true_eq]
      rintro⟨⟨_,_,_⟩,_⟩
      first|omega|simp_all)])
    done)
  |skip
 have hreal:realH t g=true:=by
  rw[realH,Bool.and_eq_true,decide_eq_true_eq]
  refine⟨⟨by omega,by omega,by omega⟩,by with_reducible assumption⟩
 rw[decH,if_pos hreal]at hv
 refine Lp.intro Nat (fun k=>⟨3,[(0,boxT t),(1,boxNt i),(2,.box (clHd g))],[(2,.v (.int .i64 m)),(4,.op 0 0),(5,.op 1 0),(7,.op 2 0),(48,.lst ((ordP i m).map vN)),(49,.v (.int .i64 (((ordP i m).map vN).length:Nat))),(50,.v (.int .i64 k))]⟩) (fun k=>k<=(ordP i m).length/\∀(j:Nat) n,j<k->(ordP i m)[j]? =some n->hitN t i (hdQ g) n=false) (fun k=>(ordP i m).length-k) 0 ⟨Nat.zero_le _,fun j n h=>absurd h (Nat.not_lt_zero _)⟩ ?_ ?_
 ·(exact leA)
 have hol:(ordP i m).length<=12:=Nat.le_trans (ordP_len (nt_pri hcn.2)) hs
 intro k ⟨hk,hin⟩
 rcases Nat.lt_or_ge k (ordP i m).length with hkl|hkl
 ·obtain⟨n,hn⟩:∃n,(ordP i m)[k]? =some n:=⟨_,List.getElem?_eq_getElem hkl⟩
  have hnl:=ordF_lt (List.mem_of_getElem? hn)
  obtain⟨x,hx⟩:=gex hnl
  have hse:=chk_stm hch x (List.mem_of_getElem? hx)
  have hsv:stmV t i (n:Int)=((stmP t i x).1,0):=by
   rw[stmV,if_pos hcn,if_neg zo,Int.toNat_natCast,hx]
   exact Prod.ext rfl hse
  have hst:∀{K:KT},K (.tup [encXs (stmP t i x).1,.v (.int .i64 0)]) []->ACall Tryz.prog 48 [encT t,encNt i,.v (.int .i64 n)] [] K:=fun h=>
   crStatement t zo i hb n (by rw[hsv];exact h)
  have hcon:∀{K:KT},K (.sb (hitN t i (hdQ g) n)) []->ACall Tryz.prog 68 [encXs (stmP t i x).1,encHd g] [] K:=fun h=>coPCon _ g ho (setBlen (stmP_set t i x)) (by rw[hit_con hx ho];exact h)
  have hper:perN i n=x.permit:=by simp[perN,hx]
  (repeat' ((conv=>whnf);first|(with_reducible first|refine in_map hkl ?_|refine ix_map hn ?_|refine hst ?_|refine hcon ?_|refine in_map hnl ?_|refine ix_map hx ?_)|refine zG ?_|apply zA|(apply zI;intro h)|exact zT));(all_goals conv=>whnf)
  all_goals first
   |(have e:decV t i m g=(x.permit,(n:Int)):=by
      rw[hv,findQ_at hn zw hin]
      exact Prod.ext hper rfl
     rw[e]at hK
     exact⟨_,Weak.refl,hK⟩)
   |(refine⟨k+1,⟨hkl,all_succ hn zw hin⟩,by omega,?_⟩
     rw[Int.natCast_add,Int.natCast_one]
     (exact leA)
     done)
 ·(repeat' ((conv=>whnf);first|refine zG ?_|apply zA|(apply zI;intro h)|exact zT));(all_goals conv=>whnf)
  rw[findQ_no (before_all hkl hin)]at hv
  exact hKf hv
theorem putG_R{c:ByteArray}{s:List Bx}(hc:c.toList≠[])(hs:s≠[]):∀l:List Insp,PutR l c s (putG l c s).1 (putG l c s).2
 |[]=>PutR.ins 0 hc hs (Nat.le_refl _) (fun j y h=>absurd h (Nat.not_lt_zero _)) (fun y h=>by simp at h)
 |y::r=>by
  have ih:=putG_R hc hs r
  unfold putG
  split
  ·rename_i h1
   generalize putG r c s=q at*
   obtain⟨l',e⟩:=q
   simp only at ih⊢
   cases ih with
   |skip h=>exact absurd h (by rintro(h|h);exact hc h;exact hs h)
   |ins k a1 a2 a3 a4 a5=>
    exact PutR.ins (l:=y::r) (k+1) a1 a2 (by simp only[List.length_cons];omega) (fun j z hj hz=>by
     cases j with
     |zero=>cases hz;exact h1
     |succ j=>exact a4 j z zo (by simpa using hz)) (fun z hz=>a5 z (by simpa using hz))
   |uni k z a1 a2 a3 a4=>exact PutR.uni (l:=y::r) (k+1) z a1 a2 (by simpa using a3) a4
  ·rename_i h1
   split
   ·rename_i h2
    exact PutR.uni (l:=y::r) 0 y hc hs rfl h2
   ·rename_i h2
    exact PutR.ins (l:=y::r) 0 hc hs (Nat.zero_le _) (fun j z h=>absurd h (Nat.not_lt_zero _)) (fun z hz=>by
     cases hz
     exact⟨by simpa using h1,by simpa[sEq]using h2⟩)
theorem putP_R(l:List Insp)(c:ByteArray)(s:List Bx):PutR l c s (putP l c s).1 (putP l c s).2:=by
 have he:(sEq c ⟨#[]⟩=true)↔c.toList=[]:=by
  unfold sEq
  have:(ByteArray.mk #[]).toList=[]:=by decide+kernel
  rw[this];simp
 unfold putP
 split
 ·rename_i h
  rw[he]at h
  exact PutR.skip h
 ·rename_i h
  rw[he]at h
  exact putG_R (fun e=>h (.inl e)) (fun e=>h (.inr e)) l
theorem atGo_inv{t:Tp}{i:Nt}(hc:∀x,x∈i.sts->x.cls.toList=[]\/nameOk x.cls):∀(l:List Nat) (rest:List Bx) (p:Pol),AtInv t rest p->(atGo t i l rest p).2=0->∃r,AtInv t r (atGo t i l rest p).1
 |[],rest,p,h,_=>⟨rest,h⟩
 |n::l,rest,p,h,he=>by
  rw[atGo]at he⊢
  cases hx:i.sts[n]? with
  |none=>exact⟨rest,h⟩
  |some x=>
   have hxc:=hc x (List.mem_of_getElem? hx)
   have hs:=stmP_set t i x
   simp only[hx]at he⊢
   split at he
   ·rename_i h1;exact absurd he h1
   rename_i e1
   rw[if_neg e1]
   split at he
   ·rename_i h1;exact absurd he h1
   rename_i e2
   rw[if_neg e2]
   split at he
   ·rename_i hp
    rw[if_pos hp]
    exact atGo_inv hc l _ p (h.deny hs) he
   ·rename_i hp
    rw[if_neg hp]
    split at he
    ·rename_i h1;exact absurd he h1
    rename_i e3
    rw[if_neg e3]
    split at he
    ·rename_i h1;exact absurd he h1
    rename_i e4
    rw[if_neg e4]
    exact atGo_inv hc l _ _ (h.permit hs hxc (Decidable.byContradiction e1) (Decidable.byContradiction e2) (Decidable.byContradiction e3) (putP_R _ _ _) (Decidable.byContradiction e4)) he
theorem nt_cls{i:Nt}(h:ntB i=true):∀x,x∈i.sts->x.cls.toList=[]\/nameOk x.cls:=fun x hx=>by
 have:=(ntB_iff.1 h).t x hx
 unfold smB at this
 simp only[Bool.and_eq_true]at this
 have h1:=this.1.2.2.2.1
 unfold optB at h1
 rw[Bool.or_eq_true]at h1
 rcases h1 with h1|h1
 ·left
  have:=sEq_iff.1 h1
  rw[this];decide+kernel
 ·exact .inr (nameB_iff.1 h1)
theorem atP_ok{t:Tp}{i:Nt}{m:Int}(hc:compB t=true)(hn:ntB i=true)(he:(atP t i m).2=0):PolOk t (atP t i m).1:=by
 unfold atP at he⊢
 split at he
 ·rename_i h;exact absurd he h
 rename_i h
 rw[if_neg h]
 obtain⟨r,hr⟩:=atGo_inv (t:=t) (nt_cls hn) (ordP i m) (realP t).1 zPol (atInv_start t) he
 exact hr.pol hc
end Go.Proofs.YtbdikofefjljoaaGreatDoor
