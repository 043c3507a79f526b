/- A group has exactly the addresses of its items. -/
import Derived.Test.YtbdikofefjljoaaGreatDoorM21
set_option linter.unusedVariables false
set_option linter.unusedSimpArgs false
set_option maxRecDepth 100000
set_option maxHeartbeats 4000000
namespace Go.Proofs.YtbdikofefjljoaaGreatDoor
open Go Go.Vm
theorem eyCont(l:List Bx)(g:Hd)(ho:g.Ok)(hl:l.length<1000000000){K:KT}(hK:K (.sb (l.any fun b=>conB b g)) []):ACall Tryz.prog 22 [encXs l,encHd g] [] K:=by
 refine ACall.bool (ofnCont rfl rfl ?_)
 (repeat' ((conv=>whnf);first|refine zG ?_|apply zA|(apply zI;intro h)|exact zT));(all_goals conv=>whnf)
 refine Lp.intro Nat (fun i=>⟨1,[(0,.box [.v (.int .u32 g.src),.v (.int .u32 g.dst),.v (.int .u8 g.pro),.v (.int .u16 g.sp),.v (.int .u16 g.dp)])],[(0,encXs l),(3,.op 0 0),(5,.v (.int .i64 i))]⟩) (fun i=>i<=l.length/\∀(j:Nat) x,j<i->l[j]? =some x->conB x g=false) (fun i=>l.length-i) 0 ⟨aH _,fun j x h=>absurd h (aZ _)⟩ ?_ ?_
 ·(exact leA)
 intro i ⟨hi,hinv⟩
 rcases aB i l.length with hil|hil
 ·obtain⟨x,hx⟩:=gex hil
  (repeat' ((conv=>whnf);first|(with_reducible first|refine in_map hil ?_|refine ix_map hx ?_|refine cvCon x g ho ?_)|refine zG ?_|apply zA|(apply zI;intro h)|exact zT));(all_goals conv=>whnf)
  all_goals first
   |exact fin_t hK (dM.2 ⟨x,aF hx,h⟩)
   |(refine⟨i+1,⟨hil,all_succ hx (by simpa using h) hinv⟩,by omega,?_⟩
     rw[aN,aL]
     (exact leA)
     done)
 ·(repeat' ((conv=>whnf);first|refine zG ?_|apply zA|(apply zI;intro h)|exact zT));(all_goals conv=>whnf)
  refine fin_f hK ?_
  rw[cA,ne_eq,dM]
  rintro⟨x,hx,hc⟩
  obtain⟨j,hj⟩:=bM.1 hx
  have:=before_all hil hinv j x hj
  rw[hc]at this;cases this
theorem con_mem{X:List Bx}(hs:setB X=true){g:Hd}(ho:g.Ok):(X.any fun b=>conB b g)=memK (hdQ g) 5 X:=by
 rw[bG,dM,memK_iff]
 refine exists_congr fun b=>and_congr_right fun hb=>?_
 have hok:=okL_ok (okL_set hs) hb
 rw[conB_iff,inK_iff]
 constructor
 ·rintro⟨h0,h1,h2,h3,h4,_⟩ f hf
  obtain rfl|rfl|rfl|rfl|rfl:f=0\/f=1\/f=2\/f=3\/f=4:=by omega
  ·exact h0
  ·exact h1
  ·exact h2
  ·exact h3
  ·exact h4
 ·intro h
  exact⟨h 0 zo,h 1 zo,h 2 zo,h 3 zo,h 4 zo,hok⟩
theorem ACall_fin{P:Program}{f:FuncId}{args:List AV}{hs:List Vm.Obj}{K:KT}(h:ACall P f args hs fun v hs'=>finQ hs.length (enumH 0 hs') v K):ACall P f args hs K:=by
 obtain⟨h1,h2⟩:=h.elim
 refine ACall.intro h1 fun ι E w vals r hv=>(h2 ι E w vals r hv).mono ?_
 rintro e w' ⟨v,rr,hs',ι',E',he,hq,hr,hrel,hx⟩
 obtain⟨y,hs2,ι2,E2,k1,k2,k3,k4⟩:=finQ_sound hr (ι0:=ι) (fun id hid=>r.fresh id hid) hx.ex hrel hq
 exact⟨v,y,hs2,ι2,E2,he,k1,k2,k3,k4⟩
/-! ### Unions of ranges out of a list -/
section
variable {I:List (Int×Rg)}
end
theorem enTop3f(raw:List Int)(pos:Nat)(hp:pos<=raw.length)(hr:raw.length<=9223372036854775807){K:KT}
  (hK:∀(t:Tp) (pos':Nat),GTop t->t.devs.length<=3->pos'<=raw.length->K (encT t) [tapeO raw pos']):
  ACall Tryz.prog 43 [.op 0 0,.v (.int .i64 3)] [tapeO raw pos] K:=by
 refine ACall_fin (cnTop raw pos 3 zd hp hr fun t p h1 h2 h3=>?_)
 (repeat' ((conv=>whnf);first|(with_reducible refine sl_full (aA ..) ?_)|refine zG ?_|apply zA|(apply zI;intro h)|exact zT));(all_goals conv=>whnf)
 exact hK t p h1 zo h3
theorem bindE_set{α:Type}{x:α×Int}{k:α->List Bx×Int}(h:setB (k x.1).1=true):setB (bindE x k).1=true:=by
 unfold bindE
 split
 ·exact setB_nil
 ·exact h
theorem stmP_set(t:Tp)(i:Nt)(s:Sm):setB (stmP t i s).1=true:=by
 unfold stmP
 refine bindE_set (bindE_set (bindE_set (bindE_set (bindE_set (bindE_set ?_)))))
 split
 ·exact setB_combP ..
 ·exact bindE_set (setB_combP ..)
def realH(t:Tp)(g:Hd):Bool:=decide (0<=edgeAt t g.src/\0<=edgeAt t g.dst/\edgeAt t g.src≠edgeAt t g.dst)&&initS.any fun b=>conB b g
noncomputable def decH(t:Tp)(i:Nt)(m:Int)(g:Hd):Option Nat:=if realH t g=true then(ordP i m).find? (hitN t i (hdQ g))else none
noncomputable def decV(t:Tp)(i:Nt)(m:Int)(g:Hd):Bool×Int:=if preV t i m≠0 then(false,-1)else match decH t i m g with
 |some n=>(perN i n,(n:Int))
 |none=>(false,-1)
theorem pre_ok{t:Tp}{i:Nt}{m:Int}(h:preV t i m=0):(compB t=true/\ntB i=true)/\(0<=m/\m<10080)/\chkP t i=0:=by
 unfold preV at h
 have hcn:compB t=true/\ntB i=true:=Decidable.byContradiction fun h'=>by rw[aE h']at h;cases h
 rw[aG hcn]at h
 have hmm:0<=m/\m<10080:=Decidable.byContradiction fun h'=>by rw[aE h']at h;cases h
 rw[aG hmm]at h
 exact⟨hcn,hmm,h⟩
theorem hit_con{t:Tp}{i:Nt}{n:Nat}{x:Sm}(hx:i.sts[n]? =some x){g:Hd}(ho:g.Ok):((stmP t i x).1.any fun b=>conB b g)=hitN t i (hdQ g) n:=by
 rw[con_mem (stmP_set t i x) ho];simp[hitN,hx]
theorem findQ_drop{α:Type}{p:α->Bool}:∀{l:List α} {k:Nat},(∀(j:Nat) x,j<k->l[j]? =some x->p x=false)->l.find? p=(l.drop k).find? p
 |[],k,_=>by simp
 |x::l,0,_=>rfl
 |x::l,k+1,h=>by
  rw[List.find?_cons,h 0 x zo rfl,List.drop_succ_cons]
  exact findQ_drop fun j y hj hy=>h (j+1) y zo (by simpa using hy)
theorem findQ_at{α:Type}{p:α->Bool}{l:List α}{k:Nat}{x:α}(hx:l[k]? =some x)(hp:p x=true)(h:∀(j:Nat) x,j<k->l[j]? =some x->p x=false):l.find? p=some x:=by
 have hk:=(aP.1 hx).1
 rw[findQ_drop h,bE hk]
 rw[aD hk]at hx
 rw[bH hx,List.find?_cons,hp]
theorem findQ_no{α:Type}{p:α->Bool}{l:List α}(h:∀(j:Nat) x,l[j]? =some x->p x=false):l.find? p=none:=by
 rw[List.find?_eq_none]
 intro x hx
 obtain⟨j,hj⟩:=bM.1 hx
 simp[h j x hj]
theorem coDec(t:Tp)(ht:t.edges.length<1000)(hd:t.devs.length<1000)(i:Nt)(hb:Bnd i)(hs:i.sts.length<=12)(m:Int)(g:Hd)(ho:g.Ok){K:KT}
  (hK:K (.tup [.sb (decV t i m g).1,.v (.int .i64 (decV t i m g).2)]) []):ACall Tryz.prog 21 [encT t,encNt i,.v (.int .i64 m),encHd g] [] K:=by
 have hKf:decV t i m g=(false,-1)->∃y,Weak (.tup [.v (.bool false),.v (.int .i64 (-1))]) y/\K y []:=fun he=>by
  rw[he]at hK
  exact⟨_,Weak.tup2 Weak.bool Weak.refl,hK⟩
 refine ACall.weak (ofoDec rfl rfl ?_)
 by_cases hp:preV t i m=0
 case neg=>
  have hz:decV t i m g=(false,-1):=by rw[decV,aG hp]
  (repeat' ((conv=>whnf);first|(with_reducible refine coChk t ht hd i hb m ?_)|refine zG ?_|apply zA|(apply zI;intro h)|exact zT));(all_goals conv=>whnf)
  all_goals first
   |exact hKf hz
   |exact absurd zw hp
 obtain⟨hcn,hmm,hch⟩:=pre_ok hp
 have hord:ordV i m=ordP i m:=by rw[ordV,aG ⟨hcn.2,hmm⟩]
 have hchk:∀{K:KT},K (.v (.int .i64 0)) []->ACall Tryz.prog 46 [encT t,encNt i,.v (.int .i64 m)] [] K:=fun h=>coChk t ht hd i hb m (by rw[hp];exact h)
 have hoc:∀{K:KT},K (.lst ((ordP i m).map vN)) []->ACall Tryz.prog 37 [encNt i,.v (.int .i64 m)] [] K:=fun h=>coOrd i hb hs m (by rw[hord];exact h)
 have hv:decV t i m g=match decH t i m g with
  |some n=>(perN i n,(n:Int))
  |none=>(false,-1):=by rw[decV,aE zo]
 (repeat' ((conv=>whnf);first|(with_reducible first|refine hchk ?_|refine coTAt t g.src ho.s0 ho.s1 zo ?_|refine coTAt t g.dst ho.d0 ho.d1 zo ?_|refine cxInit ?_|refine coPCon initS g ho zd ?_|refine hoc ?_)|refine zG ?_|apply zA|(apply zI;intro h)|exact zT));(all_goals conv=>whnf)
 all_goals first
  |(refine hKf (by
     rw[hv,decH,aE (by
      rw[realH,aI,aK]
      rintro⟨⟨_,_,_⟩,_⟩
      first|omega|simp_all)])
    done)
  |skip
 have hreal:realH t g=true:=by
  rw[realH,aI,aK]
  refine⟨⟨by omega,by omega,by omega⟩,by with_reducible assumption⟩
 rw[decH,aG hreal]at hv
 refine Lp.intro Nat (fun k=>⟨3,[(0,boxT t),(1,boxNt i),(2,.box (clHd g))],[(2,.v (.int .i64 m)),(4,.op 0 0),(5,.op 1 0),(7,.op 2 0),(48,.lst ((ordP i m).map vN)),(49,.v (.int .i64 (((ordP i m).map vN).length:Nat))),(50,.v (.int .i64 k))]⟩) (fun k=>k<=(ordP i m).length/\∀(j:Nat) n,j<k->(ordP i m)[j]? =some n->hitN t i (hdQ g) n=false) (fun k=>(ordP i m).length-k) 0 ⟨aH _,fun j n h=>absurd h (aZ _)⟩ ?_ ?_
 ·(exact leA)
 have hol:(ordP i m).length<=12:=bR (ordP_len (nt_pri hcn.2)) hs
 intro k ⟨hk,hin⟩
 rcases aB k (ordP i m).length with hkl|hkl
 ·obtain⟨n,hn⟩:∃n,(ordP i m)[k]? =some n:=⟨_,aD hkl⟩
  have hnl:=ordF_lt (aF hn)
  obtain⟨x,hx⟩:=gex hnl
  have hse:=chk_stm hch x (aF hx)
  have hsv:stmV t i (n:Int)=((stmP t i x).1,0):=by
   rw[stmV,aG hcn,aE zo,fB,hx]
   exact Prod.ext rfl hse
  have hst:∀{K:KT},K (.tup [encXs (stmP t i x).1,.v (.int .i64 0)]) []->ACall Tryz.prog 48 [encT t,encNt i,.v (.int .i64 n)] [] K:=fun h=>
   crStatement t zo i hb n (by rw[hsv];exact h)
  have hcon:∀{K:KT},K (.sb (hitN t i (hdQ g) n)) []->ACall Tryz.prog 68 [encXs (stmP t i x).1,encHd g] [] K:=fun h=>coPCon _ g ho (setBlen (stmP_set t i x)) (by rw[hit_con hx ho];exact h)
  have hper:perN i n=x.permit:=by simp[perN,hx]
  (repeat' ((conv=>whnf);first|(with_reducible first|refine in_map hkl ?_|refine ix_map hn ?_|refine hst ?_|refine hcon ?_|refine in_map hnl ?_|refine ix_map hx ?_)|refine zG ?_|apply zA|(apply zI;intro h)|exact zT));(all_goals conv=>whnf)
  all_goals first
   |(have e:decV t i m g=(x.permit,(n:Int)):=by
      rw[hv,findQ_at hn zw hin]
      exact Prod.ext hper rfl
     rw[e]at hK
     exact⟨_,Weak.refl,hK⟩)
   |(refine⟨k+1,⟨hkl,all_succ hn zw hin⟩,by omega,?_⟩
     rw[aN,aL]
     (exact leA)
     done)
 ·(repeat' ((conv=>whnf);first|refine zG ?_|apply zA|(apply zI;intro h)|exact zT));(all_goals conv=>whnf)
  rw[findQ_no (before_all hkl hin)]at hv
  exact hKf hv
theorem putG_R{c:ByteArray}{s:List Bx}(hc:c.toList≠[])(hs:s≠[]):∀l:List Insp,PutR l c s (putG l c s).1 (putG l c s).2
 |[]=>PutR.ins 0 hc hs (aM _) (fun j y h=>absurd h (aZ _)) (fun y h=>by simp at h)
 |y::r=>by
  have ih:=putG_R hc hs r
  unfold putG
  split
  ·rename_i h1
   generalize putG r c s=q at*
   obtain⟨l',e⟩:=q
   simp only at ih⊢
   cases ih with
   |skip h=>exact absurd h (by rintro(h|h);exact hc h;exact hs h)
   |ins k a1 a2 a3 a4 a5=>
    exact PutR.ins (l:=y::r) (k+1) a1 a2 (by simp only[aJ];omega) (fun j z hj hz=>by
     cases j with
     |zero=>cases hz;exact h1
     |succ j=>exact a4 j z zo (by simpa using hz)) (fun z hz=>a5 z (by simpa using hz))
   |uni k z a1 a2 a3 a4=>exact PutR.uni (l:=y::r) (k+1) z a1 a2 (by simpa using a3) a4
  ·rename_i h1
   split
   ·rename_i h2
    exact PutR.uni (l:=y::r) 0 y hc hs rfl h2
   ·rename_i h2
    exact PutR.ins (l:=y::r) 0 hc hs (aH _) (fun j z h=>absurd h (aZ _)) (fun z hz=>by
     cases hz
     exact⟨by simpa using h1,by simpa[sEq]using h2⟩)
theorem putP_R(l:List Insp)(c:ByteArray)(s:List Bx):PutR l c s (putP l c s).1 (putP l c s).2:=by
 have he:(sEq c ⟨#[]⟩=true)↔c.toList=[]:=by
  unfold sEq
  have:(ByteArray.mk #[]).toList=[]:=by decide+kernel
  rw[this];simp
 unfold putP
 split
 ·rename_i h
  rw[he]at h
  exact PutR.skip h
 ·rename_i h
  rw[he]at h
  exact putG_R (fun e=>h (.inl e)) (fun e=>h (.inr e)) l
theorem atGo_inv{t:Tp}{i:Nt}(hc:∀x,x∈i.sts->x.cls.toList=[]\/nameOk x.cls):∀(l:List Nat) (rest:List Bx) (p:Pol),AtInv t rest p->(atGo t i l rest p).2=0->∃r,AtInv t r (atGo t i l rest p).1
 |[],rest,p,h,_=>⟨rest,h⟩
 |n::l,rest,p,h,he=>by
  rw[atGo]at he⊢
  cases hx:i.sts[n]? with
  |none=>exact⟨rest,h⟩
  |some x=>
   have hxc:=hc x (aF hx)
   have hs:=stmP_set t i x
   simp only[hx]at he⊢
   split at he
   ·rename_i h1;exact absurd he h1
   rename_i e1
   rw[aE e1]
   split at he
   ·rename_i h1;exact absurd he h1
   rename_i e2
   rw[aE e2]
   split at he
   ·rename_i hp
    rw[aG hp]
    exact atGo_inv hc l _ p (h.deny hs) he
   ·rename_i hp
    rw[aE hp]
    split at he
    ·rename_i h1;exact absurd he h1
    rename_i e3
    rw[aE e3]
    split at he
    ·rename_i h1;exact absurd he h1
    rename_i e4
    rw[aE e4]
    exact atGo_inv hc l _ _ (h.permit hs hxc (Decidable.byContradiction e1) (Decidable.byContradiction e2) (Decidable.byContradiction e3) (putP_R _ _ _) (Decidable.byContradiction e4)) he
theorem nt_cls{i:Nt}(h:ntB i=true):∀x,x∈i.sts->x.cls.toList=[]\/nameOk x.cls:=fun x hx=>by
 have:=(ntB_iff.1 h).t x hx
 unfold smB at this
 simp only[aI]at this
 have h1:=this.1.2.2.2.1
 unfold optB at h1
 rw[bV]at h1
 rcases h1 with h1|h1
 ·left
  have:=sEq_iff.1 h1
  rw[this];decide+kernel
 ·exact .inr (nameB_iff.1 h1)
theorem atP_ok{t:Tp}{i:Nt}{m:Int}(hc:compB t=true)(hn:ntB i=true)(he:(atP t i m).2=0):PolOk t (atP t i m).1:=by
 unfold atP at he⊢
 split at he
 ·rename_i h;exact absurd he h
 rename_i h
 rw[aE h]
 obtain⟨r,hr⟩:=atGo_inv (t:=t) (nt_cls hn) (ordP i m) (realP t).1 zPol (atInv_start t) he
 exact hr.pol hc
noncomputable def tryP(g:ByteArray->Option (List Bx))(rest allow:List Bx)(x:Sm)(S:List Bx):Int×List Bx×List Bx×(ByteArray->Option (List Bx)):=
 if(combP anB rest S).2≠0 then((combP anB rest S).2,rest,allow,g)else
 if(combP woB rest S).2≠0 then((combP woB rest S).2,(combP woB rest S).1,allow,g)else
 if x.permit=false then(0,(combP woB rest S).1,allow,g)else
 if(combP orB allow (combP anB rest S).1).2≠0 then((combP orB allow (combP anB rest S).1).2,(combP woB rest S).1,(combP orB allow (combP anB rest S).1).1,g)else
 if sEq x.cls ⟨#[]⟩=true then(0,(combP woB rest S).1,(combP orB allow (combP anB rest S).1).1,g)else
 ((combP orB ((g x.cls).getD []) (combP anB rest S).1).2,(combP woB rest S).1,(combP orB allow (combP anB rest S).1).1,updS g x.cls (combP orB ((g x.cls).getD []) (combP anB rest S).1).1)
theorem putG_len(c:ByteArray)(s:List Bx):∀l:List Insp,(putG l c s).1.length<=l.length+1
 |[]=>by simp[putG]
 |y::r=>by
  have:=putG_len c s r
  unfold putG
  split
  ·simp only[aJ];omega
  ·split<;>simp
theorem putP_len(c:ByteArray)(s:List Bx)(l:List Insp):(putP l c s).1.length<=l.length+1:=by
 unfold putP
 split
 ·simp
 ·exact putG_len c s l
theorem try_step{t:Tp}{i:Nt}{n:Nat}{r:List Nat}{x:Sm}(hx:i.sts[n]? =some x){g:ByteArray->Option (List Bx)}{rest:List Bx}{p:Pol}(hg:MapR g p.insp):
  ((tryP g rest p.allow x (stmP t i x).1).1≠0->atGo t i (n::r) rest p=(zPol,(tryP g rest p.allow x (stmP t i x).1).1))/\
  ((tryP g rest p.allow x (stmP t i x).1).1=0->setB rest=true->setB p.allow=true->∃l,atGo t i (n::r) rest p=atGo t i r (tryP g rest p.allow x (stmP t i x).1).2.1 ⟨(tryP g rest p.allow x (stmP t i x).1).2.2.1,l⟩/\l.length<=p.insp.length+1/\MapR (tryP g rest p.allow x (stmP t i x).1).2.2.2 l/\
    setB (tryP g rest p.allow x (stmP t i x).1).2.1=true/\setB (tryP g rest p.allow x (stmP t i x).1).2.2.1=true):=by
 unfold tryP
 rw[atGo]
 simp only[hx]
 by_cases h1:(combP anB rest (stmP t i x).1).2≠0
 ·rw[aG h1,aG h1]
  exact⟨fun _=>rfl,fun h=>absurd h h1⟩
 rw[aE h1,aE h1]
 by_cases h2:(combP woB rest (stmP t i x).1).2≠0
 ·rw[aG h2,aG h2]
  exact⟨fun _=>rfl,fun h=>absurd h h2⟩
 rw[aE h2,aE h2]
 by_cases h3:x.permit=false
 ·rw[aG h3,aG h3]
  exact⟨fun h=>absurd rfl h,fun _ _ ha=>⟨p.insp,rfl,by omega,hg,setB_combP ..,ha⟩⟩
 rw[aE h3,aE h3]
 by_cases h4:(combP orB p.allow (combP anB rest (stmP t i x).1).1).2≠0
 ·rw[aG h4,aG h4]
  exact⟨fun _=>rfl,fun h=>absurd h h4⟩
 rw[aE h4,aE h4]
 by_cases h5:sEq x.cls ⟨#[]⟩=true
 ·rw[aG h5]
  have hp:putP p.insp x.cls (combP anB rest (stmP t i x).1).1=(p.insp,0):=by rw[putP,aG (.inl h5)]
  rw[hp,aE zx]
  exact⟨fun h=>absurd rfl h,fun _ _ _=>⟨p.insp,rfl,by omega,hg,setB_combP ..,setB_combP ..⟩⟩
 rw[aE h5]
 obtain⟨m1,m2⟩:=hg.put (c:=x.cls) (by simpa using h5) (setB_combP anB rest (stmP t i x).1)
 by_cases h6:(putP p.insp x.cls (combP anB rest (stmP t i x).1).1).2≠0
 ·rw[aG h6]
  exact⟨fun _=>by rw[m1],fun h=>by rw[m1]at h6;exact absurd h h6⟩
 ·rw[aE h6]
  exact⟨fun h=>by rw[m1]at h6;exact absurd h h6,fun _ _ _=>⟨_,rfl,putP_len ..,m2 (Decidable.byContradiction h6),setB_combP ..,setB_combP ..⟩⟩
/-! the sets of the classes out of the map, in whatever order -/
noncomputable def outK(g:ByteArray->Option (List Bx))(k:ByteArray):List Insp:=match g k with
 |some s=>if s=[]then []else [⟨k,s⟩]
 |none=>[]
noncomputable def outL(g:ByteArray->Option (List Bx))(L:List ByteArray):List Insp:=L.flatMap (outK g)
theorem outK_mem{g:ByteArray->Option (List Bx)}{k:ByteArray}{x:Insp}:x∈outK g k↔x.cls=k/\g k=some x.set/\x.set≠[]:=by
 unfold outK
 cases h:g k with
 |none=>simp
 |some s=>
  simp only
  split
  ·rename_i e
   subst e
   simp only[dI,bO,false_iff]
   rintro⟨_,h1,h2⟩;exact h2 h1.symm
  ·rename_i e
   simp only[aR,bO]
   constructor
   ·rintro rfl;exact⟨rfl,rfl,e⟩
   ·rintro⟨rfl,rfl,_⟩;rfl
theorem outL_cls(g:ByteArray->Option (List Bx)):∀L:List ByteArray,((outL g L).map Insp.cls).Sublist L
 |[]=>by simp[outL]
 |k::L=>by
  have ih:=outL_cls g L
  unfold outL at ih⊢
  rw[cR,aQ]
  unfold outK
  cases h:g k with
  |none=>exact ih.cons k
  |some s=>
   simp only
   split
   ·exact ih.cons k
   ·exact ih.cons_cons k
theorem od_nodup{l:List Insp}(h:l.Pairwise fun x y=>ltS x.cls y.cls=true):l.Nodup:=
 h.imp fun hab e=>by rw[e,ltS_irr]at hab;cases hab
theorem out_perm{g:ByteArray->Option (List Bx)}{l:List Insp}(h:MapR g l){L:List ByteArray}(hn:L.Nodup)(hm:∀k,k∈L↔∃s,g k=some s):(outL g L).Perm l:=by
 refine(List.perm_ext_iff_of_nodup ?_ (od_nodup h.od)).2 fun x=>?_
 ·have h1:=(outL_cls g L).nodup hn
  rw[List.Nodup,fA]at h1
  exact h1.imp fun hab e=>hab (by rw[e])
 ·unfold outL
  rw[dT,h.mem x]
  constructor
  ·rintro⟨k,_,hk⟩
   obtain⟨rfl,h1,h2⟩:=outK_mem.1 hk
   exact⟨h1,h2⟩
  ·rintro⟨h1,h2⟩
   exact⟨x.cls,(hm _).2 ⟨_,h1⟩,outK_mem.2 ⟨rfl,h1,h2⟩⟩
theorem outL_mid(g:ByteArray->Option (List Bx))(C:List Insp)(l1:List ByteArray)(k:ByteArray)(l2:List ByteArray):(C++outL g (l1++k::l2)).Perm ((C++outK g k)++outL g (l1++l2)):=by
 unfold outL
 rw[eJ,cR,eJ,cJ]
 refine List.Perm.append_left C ?_
 rw[<-cJ,<-cJ]
 exact List.Perm.append_right _ List.perm_append_comm
/-! the sort by insertion sorts -/
section
variable {α:Type} {lt:α->α->Bool} (h1:∀a b,lt a b=true->lt b a=false) (h2:∀a b c,lt a b=false->lt b c=false->lt a c=false)
include h1 h2
theorem insRev_sorted{x:α}:∀{l:List α},l.Pairwise (fun a b=>lt a b=false)->(insRev lt l x).Pairwise fun a b=>lt a b=false
 |[],_=>by simp[insRev]
 |y::ys,h=>by
  obtain⟨a1,a2⟩:=bQ.1 h
  simp only[insRev]
  split
  ·rename_i hxy
   refine bQ.2 ⟨fun z hz=>?_,insRev_sorted a2⟩
   rcases insRev_mem.1 hz with rfl|hz
   ·exact h1 _ _ hxy
   ·exact a1 z hz
  ·rename_i hxy
   have hxy:lt x y=false:=by simpa using hxy
   refine bQ.2 ⟨fun z hz=>?_,h⟩
   rcases aW.1 hz with rfl|hz
   ·exact hxy
   ·exact h2 _ _ _ hxy (a1 z hz)
theorem isort_sorted(l:List α):(isort lt l).Pairwise fun a b=>lt b a=false:=by
 unfold isort sortRev
 rw[List.pairwise_reverse]
 suffices h:∀(l acc:List α),acc.Pairwise (fun a b=>lt a b=false)->(l.foldl (insRev lt) acc).Pairwise fun a b=>lt a b=false from h l [] List.Pairwise.nil
 intro l
 induction l with
 |nil=>intro acc h;exact h
 |cons x l ih=>intro acc h;exact ih _ (insRev_sorted h1 h2 h)
end
theorem ltS_as(a b:ByteArray)(h:ltS a b=true):ltS b a=false:=(bl_asymm _ _ h).1
theorem ltS_nt(a b c:ByteArray)(h:ltS a b=false)(h':ltS b c=false):ltS a c=false:=by
 rw[cA]
 intro hac
 by_cases e:(b.toList==c.toList)=true
 ·have e':b=c:=sEq_iff.1 e
  rw[e',hac]at h;cases h
 ·have hcb:ltS c b=true:=bl_total _ _ h' (by simpa using e)
  have:ltS a b=true:=bl_trans _ _ _ hac hcb
  rw[this]at h;cases h
theorem sorted_eq:∀{l m:List Insp},l.Perm m->l.Pairwise (fun x y=>ltS x.cls y.cls=true)->m.Pairwise (fun x y=>ltS x.cls y.cls=true)->l=m
 |[],m,h,_,_=>(List.Perm.nil_eq h)
 |x::l,[],h,_,_=>absurd h.length_eq zx
 |x::l,y::m,h,h1,h2=>by
  obtain⟨a1,a2⟩:=bQ.1 h1
  obtain⟨b1,b2⟩:=bQ.1 h2
  have hxy:x=y:=by
   rcases aW.1 (h.subset (List.mem_cons_self))with e|hx
   ·exact e
   ·rcases aW.1 (h.symm.subset (List.mem_cons_self))with e|hy
    ·exact e.symm
    ·have c1:=b1 x hx
     have c2:=a1 y hy
     have:=ltS_as _ _ c1
     rw[c2]at this;cases this
  subst hxy
  rw[sorted_eq (List.perm_cons x|>.1 h) a2 b2]
def cmpB(a b:ByteArray):Int:=if ltS a b=true then-1 else if ltS b a=true then 1 else 0
theorem cmpB_lt(a b:ByteArray):decide (cmpB a b<0)=ltS a b:=by
 unfold cmpB
 by_cases h1:ltS a b=true
 ·simp[h1]
 ·by_cases h2:ltS b a=true<;>simp[h1,h2]
theorem insp_sort{C l:List Insp}(hp:C.Perm l)(hl:l.Pairwise fun x y=>ltS x.cls y.cls=true):isort (fun x y=>decide (cmpB x.cls y.cls<0)) C=l:=by
 have e:(fun x y:Insp=>decide (cmpB x.cls y.cls<0))=fun x y=>ltS x.cls y.cls:=by funext x y;exact cmpB_lt _ _
 rw[e]
 have hs:=isort_sorted (lt:=fun x y:Insp=>ltS x.cls y.cls) (fun a b h=>ltS_as _ _ h) (fun a b c h h'=>ltS_nt _ _ _ h h') C
 have hpm:(isort (fun x y:Insp=>ltS x.cls y.cls) C).Perm l:=(isort_perm _ C).trans hp
 refine sorted_eq hpm ?_ hl
 have hnd:((isort (fun x y:Insp=>ltS x.cls y.cls) C).map Insp.cls).Nodup:=by
  rw[(hpm.map Insp.cls).nodup_iff,List.Nodup,fA]
  exact hl.imp fun hab e=>by rw[e,ltS_irr]at hab;cases hab
 rw[List.Nodup,fA]at hnd
 refine List.Pairwise.imp₂ (fun a b h1 h2=>?_) hs hnd
 exact bl_total _ _ h1 (by
  rw[cA]
  intro e
  exact h2 (sEq_iff.1 e).symm)
def ErrL(e:Int):Prop:=e=0\/e=3\/e=5\/e=8
theorem ErrL.two{e:Int}(h:e=0\/e=3):ErrL e:=by rcases h with h|h<;>simp[ErrL,h]
theorem enMin(raw:List Int)(pos:Nat)(hp:pos<=raw.length)(hr:raw.length<=9223372036854775807){K:KT}
  (hK:∀(m:Int) (pos':Nat),0<=m->m<10080->pos'<=raw.length->K (.v (.int .i64 m)) [tapeO raw pos']):ACall Tryz.prog 45 [.op 0 0] [tapeO raw pos] K:=by
 refine ofnMin rfl rfl ?_
 (repeat' ((conv=>whnf);first|(with_reducible first|refine nNext raw _ _ zo zw hr fun m1 p1 hm1 hp1=>?_|refine in_nat zo ?_|refine ix_intsB [0,479,480,481,1019,1020,1439,700] 8 0 1439 rfl rfl zd zo fun c h0 h1=>?_)|refine zG ?_|apply zA|(apply zI;intro h)|exact zT));(all_goals conv=>whnf)
 all_goals exact hK _ _ zo zo zw
theorem enIntN(ns:Nat)(hns:ns<=4)(raw:List Int)(pos:Nat)(t:Tp)(hg:GTop t)(hp:pos<=raw.length)(hr:raw.length<=9223372036854775807){K:KT}
  (hK:∀(i:Nt) (pos':Nat),ENt i->pos'<=raw.length->K (encNt i) [tapeO raw pos']):
  ACall Tryz.prog 44 [.op 0 0,encT t,.v (.int .i64 ns)] [tapeO raw pos] K:=enInt raw pos t hg.e5 (by have:=hg.d6;omega) (tpn_top hg) ns hns hp hr hK
theorem coNet(ns:Nat)(hns:ns<=4)(raw:List Int)(pos:Nat)(hp:pos<=raw.length)(hr:raw.length<=9223372036854775807){K:KT}
  (hK:∀(t:Tp) (i:Nt) (m:Int) (pos':Nat),GTop t->t.devs.length<=3->ENt i->0<=m->m<10080->pos'<=raw.length->K (.tup [encT t,encNt i,.v (.int .i64 m)]) [tapeO raw pos']):
  ACall Tryz.prog 11 [.op 0 0,.v (.int .i64 3),.v (.int .i64 ns)] [tapeO raw pos] K:=by
 refine ofoNet rfl rfl ?_
 (repeat' ((conv=>whnf);first|(with_reducible first|refine enTop3f raw _ zw hr fun t p1 ht hd hp1=>?_|refine enIntN ns hns raw _ _ zw zw hr fun i p2 hi hp2=>?_|refine enMin raw _ zw hr fun m p3 m0 m1 hp3=>?_)|refine zG ?_|apply zA|(apply zI;intro h)|exact zT));(all_goals conv=>whnf)
 exact hK t i m p3 ht hd hi m0 m1 hp3
noncomputable abbrev celA(fl:Bool)(a:List Bx):AV:=match fl with
 |true=>.nils
 |false=>encXs a
theorem cxUn0(b:List Bx)(hb:b.length<1000000000){K:KT}(hK:K (.tup [encXs (combP orB [] b).1,.v (.int .i64 (combP orB [] b).2)]) []):ACall Tryz.prog 114 [.lst [],encXs b] [] K:=cxUn [] b zx hb hK
theorem coTry(fl:Bool)(g:ByteArray->Option (List Bx))(rest allow:List Bx)(x:Sm)(S:List Bx)(h0:fl=true->allow=[])(hr:setB rest=true)(ha:setB allow=true)(hS:setB S=true)(hg:∀c s,g c=some s->setB s=true){K:KT}
  (hK:∀fl':Bool,(fl'=true->(tryP g rest allow x S).2.2.1=[])->K (.v (.int .i64 (tryP g rest allow x S).1)) [.box [encXs (tryP g rest allow x S).2.1,celA fl' (tryP g rest allow x S).2.2.1,.mp 1],.map (mapS (tryP g rest allow x S).2.2.2)]):
  ACall Tryz.prog 49 [.op 0 0,encSm x,encXs S] [.box [encXs rest,celA fl allow,.mp 1],.map (mapS g)] K:=by
 have lr:=setBlen hr
 have la:=setBlen ha
 have lS:=setBlen hS
 have lA:(combP anB rest S).1.length<1000000000:=setBlen (setB_combP ..)
 unfold tryP at hK
 refine ofoTry rfl rfl ?_
 cases fl with
 |true=>
  obtain rfl:=h0 rfl
  cases hgc:g x.cls with
  |none=>
   (repeat' ((conv=>whnf);first|(with_reducible first|refine cxInt rest S lr lS ?_|refine cxSub rest S lr lS ?_|refine cxUn0 _ lA ?_|refine mg_none (by simp only[mapS,hgc,Option.map_none]) ?_|refine Mu.intro (mapS_upd g x.cls _) ?_)|refine zG ?_|apply zA|(apply zI;intro h)|exact zT));(all_goals conv=>whnf)
   all_goals first
    |(rw[aG zw]at hK;exact hK true (fun _=>rfl))
    |(rw[aE (by simpa using(by with_reducible assumption:(combP anB rest S).2=0)),aG zw]at hK;exact hK true (fun _=>rfl))
    |(rw[aE (by simpa using(by with_reducible assumption:(combP anB rest S).2=0)),aE (by simpa using(by with_reducible assumption:(combP woB rest S).2=0)),aG zw]at hK
      have hz:(combP woB rest S).2=0:=by with_reducible assumption
      rw[hz]
      exact hK true (fun _=>rfl))
    |(rw[aE (by simpa using(by with_reducible assumption:(combP anB rest S).2=0)),aE (by simpa using(by with_reducible assumption:(combP woB rest S).2=0)),aE (by simp_all)]at hK
      first
       |(rw[aG zw]at hK;exact hK false (fun h=>by cases h))
       |(have hz:(combP orB [] (combP anB rest S).1).2=0:=by with_reducible assumption
         rw[aE (by simpa using hz)]at hK
         first
          |(rw[aG (by unfold sEq;with_reducible assumption)]at hK
            rw[hz]
            exact hK false (fun h=>by cases h))
          |(rw[aE (by unfold sEq;simp_all)]at hK
            simp only[hgc,gE,cT]at hK
            exact hK false (fun h=>by cases h))))
  |some u=>
   have lu:=setBlen (hg _ _ hgc)
   (repeat' ((conv=>whnf);first|(with_reducible first|refine cxInt rest S lr lS ?_|refine cxSub rest S lr lS ?_|refine cxUn0 _ lA ?_|refine cxUn u _ lu lA ?_|refine mg_some (x:=encXs u) (by simp only[mapS,hgc,dC]) ?_|refine Mu.intro (mapS_upd g x.cls _) ?_)|refine zG ?_|apply zA|(apply zI;intro h)|exact zT));(all_goals conv=>whnf)
   all_goals first
    |(rw[aG zw]at hK;exact hK true (fun _=>rfl))
    |(rw[aE (by simpa using(by with_reducible assumption:(combP anB rest S).2=0)),aG zw]at hK;exact hK true (fun _=>rfl))
    |(rw[aE (by simpa using(by with_reducible assumption:(combP anB rest S).2=0)),aE (by simpa using(by with_reducible assumption:(combP woB rest S).2=0)),aG zw]at hK
      have hz:(combP woB rest S).2=0:=by with_reducible assumption
      rw[hz]
      exact hK true (fun _=>rfl))
    |(rw[aE (by simpa using(by with_reducible assumption:(combP anB rest S).2=0)),aE (by simpa using(by with_reducible assumption:(combP woB rest S).2=0)),aE (by simp_all)]at hK
      first
       |(rw[aG zw]at hK;exact hK false (fun h=>by cases h))
       |(have hz:(combP orB [] (combP anB rest S).1).2=0:=by with_reducible assumption
         rw[aE (by simpa using hz)]at hK
         first
          |(rw[aG (by unfold sEq;with_reducible assumption)]at hK
            rw[hz]
            exact hK false (fun h=>by cases h))
          |(rw[aE (by unfold sEq;simp_all)]at hK
            simp only[hgc,gE,cT]at hK
            exact hK false (fun h=>by cases h))))
 |false=>
  cases hgc:g x.cls with
  |none=>
   (repeat' ((conv=>whnf);first|(with_reducible first|refine cxInt rest S lr lS ?_|refine cxSub rest S lr lS ?_|refine cxUn0 _ lA ?_|refine cxUn allow _ la lA ?_|refine mg_none (by simp only[mapS,hgc,Option.map_none]) ?_|refine Mu.intro (mapS_upd g x.cls _) ?_)|refine zG ?_|apply zA|(apply zI;intro h)|exact zT));(all_goals conv=>whnf)
   all_goals first
    |(rw[aG zw]at hK;exact hK false (fun h=>by cases h))
    |(rw[aE (by simpa using(by with_reducible assumption:(combP anB rest S).2=0)),aG zw]at hK;exact hK false (fun h=>by cases h))
    |(rw[aE (by simpa using(by with_reducible assumption:(combP anB rest S).2=0)),aE (by simpa using(by with_reducible assumption:(combP woB rest S).2=0)),aG zw]at hK
      have hz:(combP woB rest S).2=0:=by with_reducible assumption
      rw[hz]
      exact hK false (fun h=>by cases h))
    |(rw[aE (by simpa using(by with_reducible assumption:(combP anB rest S).2=0)),aE (by simpa using(by with_reducible assumption:(combP woB rest S).2=0)),aE (by simp_all)]at hK
      first
       |(rw[aG zw]at hK;exact hK false (fun h=>by cases h))
       |(have hz:(combP orB allow (combP anB rest S).1).2=0:=by with_reducible assumption
         rw[aE (by simpa using hz)]at hK
         first
          |(rw[aG (by unfold sEq;with_reducible assumption)]at hK
            rw[hz]
            exact hK false (fun h=>by cases h))
          |(rw[aE (by unfold sEq;simp_all)]at hK
            simp only[hgc,gE,cT]at hK
            exact hK false (fun h=>by cases h))))
  |some u=>
   have lu:=setBlen (hg _ _ hgc)
   (repeat' ((conv=>whnf);first|(with_reducible first|refine cxInt rest S lr lS ?_|refine cxSub rest S lr lS ?_|refine cxUn u _ lu lA ?_|refine cxUn allow _ la lA ?_|refine mg_some (x:=encXs u) (by simp only[mapS,hgc,dC]) ?_|refine Mu.intro (mapS_upd g x.cls _) ?_)|refine zG ?_|apply zA|(apply zI;intro h)|exact zT));(all_goals conv=>whnf)
   all_goals first
    |(rw[aG zw]at hK;exact hK false (fun h=>by cases h))
    |(rw[aE (by simpa using(by with_reducible assumption:(combP anB rest S).2=0)),aG zw]at hK;exact hK false (fun h=>by cases h))
    |(rw[aE (by simpa using(by with_reducible assumption:(combP anB rest S).2=0)),aE (by simpa using(by with_reducible assumption:(combP woB rest S).2=0)),aG zw]at hK
      have hz:(combP woB rest S).2=0:=by with_reducible assumption
      rw[hz]
      exact hK false (fun h=>by cases h))
    |(rw[aE (by simpa using(by with_reducible assumption:(combP anB rest S).2=0)),aE (by simpa using(by with_reducible assumption:(combP woB rest S).2=0)),aE (by simp_all)]at hK
      first
       |(rw[aG zw]at hK;exact hK false (fun h=>by cases h))
       |(have hz:(combP orB allow (combP anB rest S).1).2=0:=by with_reducible assumption
         rw[aE (by simpa using hz)]at hK
         first
          |(rw[aG (by unfold sEq;with_reducible assumption)]at hK
            rw[hz]
            exact hK false (fun h=>by cases h))
          |(rw[aE (by unfold sEq;simp_all)]at hK
            simp only[hgc,gE,cT]at hK
            exact hK false (fun h=>by cases h))))
theorem coNaNS(x:ByteArray){K:KT}(hK:K (.sb false) []):ACall Tryz.prog 117 [.v (.string x)] [] K:=by
 refine ofoNaNS rfl rfl ?_
 (repeat' ((conv=>whnf);first|refine zG ?_|apply zA|(apply zI;intro h)|exact zT));(all_goals conv=>whnf)
 have e:(!(x.toList==x.toList))=false:=by simp
 first
  |(unfold one?;rw[e];exact hK)
  |exact fin_f hK e
theorem coCmpS(x y:ByteArray){K:KT}(hK:K (.v (.int .i64 (cmpB x y))) []):ACall Tryz.prog 52 [.v (.string x),.v (.string y)] [] K:=by
 refine ofoCmpS rfl rfl ?_
 (repeat' ((conv=>whnf);first|(with_reducible refine coNaNS _ ?_)|refine zG ?_|apply zA|(apply zI;intro h)|exact zT));(all_goals conv=>whnf)
 all_goals
  unfold cmpB ltS at hK
  first
   |(rw[aG zw]at hK;exact hK)
   |(rename_i h0
     simp only[fZ]at h
     rw[aE (by rw[h0];decide),aG (bl_total _ _ h.1 h.2)]at hK
     exact hK)
   |(rename_i h0
     rw[h0,fR]at h
     have e:x=y:=sEq_iff.1 h
     subst e
     rw[aE (by rw[h0];decide),aE (by rw[h0];decide)]at hK
     exact hK)
theorem mapS_nil:mapS (fun _=>none)=fun _=>none:=by
 funext v
 cases v<;>rfl
theorem coAt1(x y:Insp){K:KT}(hK:K (.v (.int .i64 (cmpB x.cls y.cls))) []):ACall Tryz.prog 51 [encIn x,encIn y] [] K:=by
 refine ofoAt1 rfl rfl ?_
 (repeat' ((conv=>whnf);first|(with_reducible refine coCmpS _ _ ?_)|refine zG ?_|apply zA|(apply zI;intro h)|exact zT));(all_goals conv=>whnf)
 exact hK
structure AtL (t:Tp) (i:Nt) (m:Int) (k:Nat) (fl:Bool) (rest:List Bx) (p:Pol) (g:ByteArray->Option (List Bx)):Prop where
 kn:k<=(ordP i m).length
 eq:atGo t i (ordP i m) (realP t).1 zPol=atGo t i ((ordP i m).drop k) rest p
 mp:MapR g p.insp
 rs:setB rest=true
 al:setB p.allow=true
 z:fl=true->p.allow=[]
 few:p.insp.length<=k
theorem coAt(t:Tp)(ht:t.edges.length<1000)(hd:t.devs.length<1000)(i:Nt)(hb:Bnd i)(hs:i.sts.length<=12)(m:Int){K:KT}(hK:K (.tup [encPol (atV t i m).1,.v (.int .i64 (atV t i m).2)]) []):
  ACall Tryz.prog 12 [encT t,encNt i,.v (.int .i64 m)] [] K:=by
 have hKz:∀e:Int,atV t i m=(zPol,e)->∃y,Weak (.tup [.agg [.nils,.nils],.v (.int .i64 e)]) y/\K y []:=fun e he=>by
  rw[he]at hK
  exact⟨_,Weak.tup2 (Weak.agg (ys:=[.lst [],.lst []]) ⟨Weak.nils,Weak.nils,trivial⟩) Weak.refl,hK⟩
 refine ACall.weak (ofoAt rfl rfl ?_)
 by_cases hp:preV t i m=0
 case neg=>
  have hz:atV t i m=(zPol,preV t i m):=by rw[atV,aG hp]
  (repeat' ((conv=>whnf);first|(with_reducible refine coChk t ht hd i hb m ?_)|refine zG ?_|apply zA|(apply zI;intro h)|exact zT));(all_goals conv=>whnf)
  all_goals first
   |exact hKz _ hz
   |exact absurd zw hp
 have hv:atV t i m=atP t i m:=by rw[atV,aE zo]
 have hpp:=hp
 unfold preV at hpp
 have hcn:compB t=true/\ntB i=true:=Decidable.byContradiction fun h=>by rw[aE h]at hpp;cases hpp
 rw[aG hcn]at hpp
 have hmm:0<=m/\m<10080:=Decidable.byContradiction fun h=>by rw[aE h]at hpp;cases hpp
 rw[aG hmm]at hpp
 have hord:ordV i m=ordP i m:=by rw[ordV,aG ⟨hcn.2,hmm⟩]
 have hchk:∀{K:KT},K (.v (.int .i64 0)) []->ACall Tryz.prog 46 [encT t,encNt i,.v (.int .i64 m)] [] K:=fun h=>coChk t ht hd i hb m (by rw[hp];exact h)
 have hoc:∀{K:KT},K (.lst ((ordP i m).map vN)) []->ACall Tryz.prog 37 [encNt i,.v (.int .i64 m)] [] K:=fun h=>coOrd i hb hs m (by rw[hord];exact h)
 unfold atP at hv
 (repeat' ((conv=>whnf);first|(with_reducible first|refine hchk ?_|refine coReal t ht hcn.1 ?_|refine hoc ?_)|refine zG ?_|apply zA|(apply zI;intro h)|exact zT));(all_goals conv=>whnf)
 all_goals first
  |(rw[aG zw]at hv;exact hKz _ hv)
  |skip
 rw[aE (by simpa using(by assumption:(realP t).2=0))]at hv
 have hrs:setB (realP t).1=true:=by
  unfold realP
  split
  ·exact setB_nil
  ·exact setB_combP ..
 refine Lp.intro (Nat×Bool×List Bx×Pol×(Value->Option AV)) (fun q=>⟨5,[(0,boxT t),(1,boxNt i),(2,.box [.nils,.nils]),(3,.box [encXs q.2.2.1,celA q.2.1 q.2.2.2.1.allow,.mp 4]),(4,.map q.2.2.2.2)],[(3,.op 0 0),(4,.op 1 0),(6,.op 2 0),(11,.op 3 0),(42,.lst ((ordP i m).map vN)),(43,.v (.int .i64 (((ordP i m).map vN).length:Nat))),(44,.v (.int .i64 q.1))]⟩)
  (fun q=>∃g,q.2.2.2.2=mapS g/\AtL t i m q.1 q.2.1 q.2.2.1 q.2.2.2.1 g) (fun q=>(ordP i m).length-q.1) (0,true,(realP t).1,zPol,fun _=>none) ⟨fun _=>none,mapS_nil.symm,aH _,by simp,mapR_nil,hrs,setB_nil,fun _=>rfl,aM _⟩ ?_ ?_
 ·(exact leA)
 rintro⟨k,fl,rest,p,F⟩ ⟨g,hF,hg⟩
 simp only at hF hg⊢
 subst hF
 have hkn:=hg.kn
 have hol:(ordP i m).length<=12:=bR (ordP_len (nt_pri hcn.2)) hs
 rcases aB k (ordP i m).length with hkl|hkl
 ·obtain⟨n,hn⟩:∃n,(ordP i m)[k]? =some n:=⟨_,aD hkl⟩
  have hnl:=ordF_lt (aF hn)
  obtain⟨x,hx⟩:=gex hnl
  have hdr:(ordP i m).drop k=n::(ordP i m).drop (k+1):=by
   rw[aD hkl]at hn
   rw[<-bH hn,<-bE hkl]
  have hse:=chk_stm hpp x (aF hx)
  have hsv:stmV t i (n:Int)=((stmP t i x).1,0):=by
   rw[stmV,aG hcn,aE zo,fB,hx]
   exact Prod.ext rfl hse
  have hst:∀{K:KT},K (.tup [encXs (stmP t i x).1,.v (.int .i64 0)]) []->ACall Tryz.prog 48 [encT t,encNt i,.v (.int .i64 n)] [] K:=fun h=>
   crStatement t zo i hb n (by rw[hsv];exact h)
  obtain⟨s1,s2⟩:=try_step (r:=(ordP i m).drop (k+1)) hx (rest:=rest) hg.mp
  rw[<-hdr,<-hg.eq]at s1 s2
  have htry:=fun {K} h=>@coTry fl g rest p.allow x (stmP t i x).1 hg.z hg.rs hg.al (stmP_set t i x) hg.mp.set K h
  generalize hq:tryP g rest p.allow x (stmP t i x).1=q at*
  obtain⟨e,rest',allow',g'⟩:=q
  simp only at s1 s2 htry
  have hnext:∀fl':Bool,(fl'=true->allow'=[])->e=0->∃l,AtL t i m (k+1) fl' rest' ⟨allow',l⟩ g':=by
   intro fl' hf he
   obtain⟨l,q1,q2,q3,q4,q5⟩:=s2 he hg.rs hg.al
   exact⟨l,hkl,q1,q3,q4,q5,hf,by have:=hg.few;simp only;omega⟩
  have hend:e≠0->atV t i m=(zPol,e):=fun he=>hv.trans (s1 he)
  clear s1 s2 hv
  cases fl
  all_goals
   (repeat' ((conv=>whnf);first|(with_reducible first|refine in_map hkl ?_|refine ix_map hn ?_|refine hst ?_|refine in_map hnl ?_|refine ix_map hx ?_|refine htry fun fl' hfl'=>?_)|refine zG ?_|apply zA|(apply zI;intro h)|exact zT));(all_goals conv=>whnf)
   have hnx:=hnext fl' hfl'
   clear htry hst hnext
   cases fl'
   all_goals
    (repeat' ((conv=>whnf);first|refine zG ?_|apply zA|(apply zI;intro h)|exact zT));(all_goals conv=>whnf)
    all_goals first
     |exact hKz _ (hend zw)
     |(obtain⟨l,hl⟩:=hnx zw
       refine⟨(k+1,_,rest',⟨allow',l⟩,mapS g'),⟨g',rfl,hl⟩,by simp only;omega,?_⟩
       simp only[aN,aL]
       (exact leA)
       done)
 ·have hke:(ordP i m).drop k=[]:=List.drop_eq_nil_of_le hkl
  have hpe:atV t i m=(p,0):=by rw[hv,hg.eq,hke,atGo]
  have hfew:p.insp.length<=12:=by
   have:=hg.few;omega
  have hmp:=hg.mp
  have hz:=hg.z
  clear hg hv
  cases fl with
  |false=>
   (repeat' ((conv=>whnf);first|(with_reducible refine Vm.Rg.mk fun τ L hn hm=>?_)|refine zG ?_|apply zA|(apply zI;intro h)|exact zT));(all_goals conv=>whnf)
   have hm':∀k,k∈L↔∃s,g k=some s:=fun k=>by
    rw[hm k]
    simp only[mapS,bK]
    exact⟨fun⟨_,s,h,_⟩=>⟨s,h⟩,fun⟨s,h⟩=>⟨_,s,h,rfl⟩⟩
   refine Lp.intro (List ByteArray×Option ByteArray×List Insp) (fun q=>⟨5,[(0,.box [.nils,.nils]),(1,.box [encXs p.allow,.os 2 2 0 q.2.2.length]),(2,.arr 2 (q.2.2.map encIn)),(3,.spc (.mt (mapS g) τ)),(4,.spc (.it (some 3) τ q.1 q.2.1))],[(6,.op 0 0),(17,.op 1 0),(75,.mp 3),(76,.op 4 0)]⟩)
    (fun q=>(q.2.2++outL g q.1).Perm p.insp) (fun q=>q.1.length) (L,none,[]) (by simpa using out_perm hmp hn hm') ?_ ?_
   ·(exact leA)
   rintro⟨L',last,C⟩ hC
   simp only at hC⊢
   have hCl:C.length<=12:=by
    have:=hC.length_eq
    rw[aC]at this
    omega
   (conv=>whnf)
   refine Nx.mk rfl (fun hL0=>?_) (fun l1 k1 l2 y hL1 hy=>?_)
   ·subst hL0
    have hC:C.Perm p.insp:=by simpa[outL]using hC
    have hso:∀{K:KT},K (.tup []) [.arr 2 (p.insp.map encIn)]->ACall Tryz.prog 50 [.os 0 2 0 C.length,.fn (.func 51) [] []] [.arr 2 (C.map encIn)] K:=fun h=>
     coSortI _ (fun x y=>cmpB x.cls y.cls) C hCl (fun x y _ _ K h=>coAt1 x y h) (by rw[insp_sort hC hmp.od];exact h)
    rw[hpe]at hK
    have hfl:(p.insp.map encIn).length=C.length:=by rw[aA,hC.length_eq]
    (repeat' ((conv=>whnf);first|(with_reducible first|refine hso ?_|refine sl_full hfl ?_)|refine zG ?_|apply zA|(apply zI;intro h)|exact zT));(all_goals conv=>whnf)
    exact⟨_,Weak.refl,hK⟩
   ·obtain⟨s,hs1,rfl⟩:∃s,g k1=some s/\y=encXs s:=by
     simp only[mapS,bK]at hy
     obtain⟨s,h1,h2⟩:=hy
     exact⟨s,h1,h2.symm⟩
    have hC1:(C++outL g (l1++k1::l2)).Perm p.insp:=by rw[<-hL1];exact hC
    have hmid:((C++outK g k1)++outL g (l1++l2)).Perm p.insp:=(outL_mid g C l1 k1 l2).symm.trans hC1
    have hok:outK g k1=if s=[]then []else [⟨k1,s⟩]:=by simp[outK,hs1]
    have hlt:(l1++l2).length<L'.length:=by rw[hL1];simp
    (repeat' ((conv=>whnf);first|(with_reducible refine En.mk rfl ⟨_,hy,?_⟩)|refine zG ?_|apply zA|(apply zI;intro h)|exact zT));(all_goals conv=>whnf)
    all_goals first
     |(have hs0:s≠[]:=fun e=>by
        rw[e,bF,aO]at h
        omega
       have hmid:=hmid
       rw[hok,aE hs0]at hmid
       refine⟨(l1++l2,some k1,C++[⟨k1,s⟩]),hmid,hlt,?_⟩
       simp only[aQ,aC,aU,bF,aJ,aO]
       (exact leA)
       done)
     |(have hs0:s=[]:=bS.1 (by simp only[aA]at*;omega)
       have hmid:=hmid
       rw[hok,aG hs0,bD]at hmid
       refine⟨(l1++l2,some k1,C),hmid,hlt,?_⟩
       (exact leA)
       done)
  |true=>
   (repeat' ((conv=>whnf);first|(with_reducible refine Vm.Rg.mk fun τ L hn hm=>?_)|refine zG ?_|apply zA|(apply zI;intro h)|exact zT));(all_goals conv=>whnf)
   have hm':∀k,k∈L↔∃s,g k=some s:=fun k=>by
    rw[hm k]
    simp only[mapS,bK]
    exact⟨fun⟨_,s,h,_⟩=>⟨s,h⟩,fun⟨s,h⟩=>⟨_,s,h,rfl⟩⟩
   refine Lp.intro (List ByteArray×Option ByteArray×List Insp) (fun q=>⟨5,[(0,.box [.nils,.nils]),(1,.box [.nils,.os 2 2 0 q.2.2.length]),(2,.arr 2 (q.2.2.map encIn)),(3,.spc (.mt (mapS g) τ)),(4,.spc (.it (some 3) τ q.1 q.2.1))],[(6,.op 0 0),(17,.op 1 0),(75,.mp 3),(76,.op 4 0)]⟩)
    (fun q=>(q.2.2++outL g q.1).Perm p.insp) (fun q=>q.1.length) (L,none,[]) (by simpa using out_perm hmp hn hm') ?_ ?_
   ·(exact leA)
   rintro⟨L',last,C⟩ hC
   simp only at hC⊢
   have hCl:C.length<=12:=by
    have:=hC.length_eq
    rw[aC]at this
    omega
   (conv=>whnf)
   refine Nx.mk rfl (fun hL0=>?_) (fun l1 k1 l2 y hL1 hy=>?_)
   ·subst hL0
    have hC:C.Perm p.insp:=by simpa[outL]using hC
    have hso:∀{K:KT},K (.tup []) [.arr 2 (p.insp.map encIn)]->ACall Tryz.prog 50 [.os 0 2 0 C.length,.fn (.func 51) [] []] [.arr 2 (C.map encIn)] K:=fun h=>
     coSortI _ (fun x y=>cmpB x.cls y.cls) C hCl (fun x y _ _ K h=>coAt1 x y h) (by rw[insp_sort hC hmp.od];exact h)
    rw[hpe]at hK
    have hfl:(p.insp.map encIn).length=C.length:=by rw[aA,hC.length_eq]
    (repeat' ((conv=>whnf);first|(with_reducible first|refine hso ?_|refine sl_full hfl ?_)|refine zG ?_|apply zA|(apply zI;intro h)|exact zT));(all_goals conv=>whnf)
    refine⟨.tup [encPol p,.v (.int .i64 0)],Weak.tup2 (Weak.agg ⟨by rw[hz rfl];exact Weak.nils,Weak.refl,trivial⟩) Weak.refl,hK⟩
   ·obtain⟨s,hs1,rfl⟩:∃s,g k1=some s/\y=encXs s:=by
     simp only[mapS,bK]at hy
     obtain⟨s,h1,h2⟩:=hy
     exact⟨s,h1,h2.symm⟩
    have hC1:(C++outL g (l1++k1::l2)).Perm p.insp:=by rw[<-hL1];exact hC
    have hmid:((C++outK g k1)++outL g (l1++l2)).Perm p.insp:=(outL_mid g C l1 k1 l2).symm.trans hC1
    have hok:outK g k1=if s=[]then []else [⟨k1,s⟩]:=by simp[outK,hs1]
    have hlt:(l1++l2).length<L'.length:=by rw[hL1];simp
    (repeat' ((conv=>whnf);first|(with_reducible refine En.mk rfl ⟨_,hy,?_⟩)|refine zG ?_|apply zA|(apply zI;intro h)|exact zT));(all_goals conv=>whnf)
    all_goals first
     |(have hs0:s≠[]:=fun e=>by
        rw[e,bF,aO]at h
        omega
       have hmid:=hmid
       rw[hok,aE hs0]at hmid
       refine⟨(l1++l2,some k1,C++[⟨k1,s⟩]),hmid,hlt,?_⟩
       simp only[aQ,aC,aU,bF,aJ,aO]
       (exact leA)
       done)
     |(have hs0:s=[]:=bS.1 (by simp only[aA]at*;omega)
       have hmid:=hmid
       rw[hok,aG hs0,bD]at hmid
       refine⟨(l1++l2,some k1,C),hmid,hlt,?_⟩
       (exact leA)
       done)
def eS:ByteArray:=⟨#[]⟩
def sshS:ByteArray:=⟨#[115,115,104]⟩
def qsnA:Sm:=⟨true,eS,eS,eS,false,eS,eS,eS,eS,0⟩
def qsnB:Sm:=⟨false,eS,eS,sshS,false,eS,eS,eS,eS,1⟩
def qsnN:Nt:=⟨[],[⟨sshS,[⟨4,eS,⟨0,0,by decide,by decide⟩,6,⟨22,22,by decide,by decide,by decide,by decide⟩⟩]⟩],[],[qsnA,qsnB],[],[]⟩
def qsnH:Hd:=⟨167772161,2886729729,6,1,22⟩
def qsnK:Hd:=⟨167772161,2886729729,6,1,23⟩
theorem qsnH_ok:qsnH.Ok:=⟨by decide,by decide,by decide,by decide,by decide,by decide,by decide,by decide,by decide,by decide⟩
theorem qsnK_ok:qsnK.Ok:=⟨by decide,by decide,by decide,by decide,by decide,by decide,by decide,by decide,by decide,by decide⟩
theorem eS_opt:optB eS=true:=by
 unfold optB
 rw[show sEq eS ⟨#[]⟩=true from sEq_iff.2 rfl];rfl
theorem ssh_opt:optB sshS=true:=by
 unfold optB
 rw[show nameB sshS=true from nameB_true (nameOk_data zd)];simp
theorem sEq_e:sEq eS ⟨#[]⟩=true:=sEq_iff.2 rfl
theorem qsnN_ok:NtOk qsnN:=by
 refine⟨dfsC_ok (by decide+kernel),dfsC_ok (by decide+kernel),by decide,by decide,by decide,by decide,fun k x h=>by simp[qsnN]at h,fun x hx=>?_,fun x h=>by simp[qsnN]at h,fun x h=>by simp[qsnN]at h⟩
 simp only[qsnN,aW,dI,or_false]at hx
 rcases hx with rfl|rfl
 ·simp only[smB,qsnA,eS_opt,sEq_e];decide
 ·simp only[smB,qsnB,eS_opt,ssh_opt,sEq_e];decide
theorem qsnN_bnd:Bnd qsnN:=by
 refine⟨by decide,by decide,by decide,by decide,by decide,by decide,fun x h=>by simp[qsnN]at h,fun x h=>?_,fun x h=>by simp[qsnN]at h,by decide,by decide⟩
 simp only[qsnN,aW,dI,or_false]at h
 subst h
 decide
theorem qsn_grp:grpP netR qsnN eS=([pf0.rg,pf4.rg],0):=by
 have e:grpE netR qsnN.grps eS=(0,[pf0.rg,pf4.rg]):=by rw[grpE,aG sEq_e];rfl
 have hc:Canon [pf0.rg,pf4.rg]:=⟨fun r hr=>by
  simp only[aW,dI,or_false]at hr
  rcases hr with rfl|rfl<;>decide,by
  refine bQ.2 ⟨fun s hs=>?_,List.pairwise_singleton ..⟩
  rw[aR.1 hs];decide⟩
 rw[grpP,e,aG rfl,canO_eq hc fun v=>rfl]
def qsnS(nm:ByteArray):List Bx×Int:=bindE (svcP qsnN nm) fun v=>bindE (makeP (btwB [pf0.rg,pf4.rg] [pf0.rg,pf4.rg])) fun b=>combP anB b v
theorem qsn_stm(x:Sm)(h1:x.frm=eS)(h2:x.to=eS)(h3:x.exc=false):stmP netR qsnN x=qsnS x.svc:=by
 unfold stmP qsnS
 rw[h1,h2,h3,qsn_grp]
 rw[bindE_ok rfl,bindE_ok rfl]
 simp only[cM,if_false]
 congr 1
 funext v
 rw[bindE_ok rfl,bindE_ok rfl]
 congr 1
 funext b
 simp
def qsnR:List Bx:=(realP netR).1
def qsnX:List Bx:=(qsnS sshS).1
def qsnY:List Bx:=(qsnS eS).1
def qsnW:List Bx:=(combP woB qsnR qsnX).1
def qsnP:List Bx:=(combP orB [] (combP anB qsnW qsnY).1).1
theorem qsn_real:(realP netR).2=0:=by decide+kernel
theorem qsn_x:(qsnS sshS).2=0:=by decide+kernel
theorem qsn_y:(qsnS eS).2=0:=by decide+kernel
theorem qsn_1:(combP anB qsnR qsnX).2=0:=by decide+kernel
theorem qsn_2:(combP woB qsnR qsnX).2=0:=by decide+kernel
theorem qsn_3:(combP anB qsnW qsnY).2=0:=by decide+kernel
theorem qsn_4:(combP woB qsnW qsnY).2=0:=by decide+kernel
theorem qsn_5:(combP orB [] (combP anB qsnW qsnY).1).2=0:=by decide+kernel
theorem qsn_h:(qsnP.any fun b=>conB b qsnH)=false:=by decide+kernel
theorem qsn_k:(qsnP.any fun b=>conB b qsnK)=true:=by decide+kernel
theorem qsn_xh:(qsnX.any fun b=>conB b qsnH)=true:=by decide+kernel
theorem qsn_re:realH netR qsnH=true:=by decide+kernel
theorem qsn_ord:ordP qsnN 0=[1,0]:=by decide+kernel
theorem qsn_b:stmP netR qsnN qsnB=qsnS sshS:=qsn_stm qsnB rfl rfl rfl
theorem qsn_a:stmP netR qsnN qsnA=qsnS eS:=qsn_stm qsnA rfl rfl rfl
theorem qsnN_chk:chkP netR qsnN=0:=by
 have n1:namE netR qsnN qsnA=0:=by decide+kernel
 have n2:namE netR qsnN qsnB=0:=by decide+kernel
 have e1:fstE (fun d:Df=>(grpP netR qsnN d.name).2) qsnN.grps=0:=rfl
 have e2:fstE (fun d:Df=>(svcP qsnN d.name).2) qsnN.svcs=0:=by decide+kernel
 have e3:fstE (fun s:Sm=>if(stmP netR qsnN s).2≠0 then(stmP netR qsnN s).2 else namE netR qsnN s) qsnN.sts=0:=by
  show fstE (fun s:Sm=>if(stmP netR qsnN s).2≠0 then(stmP netR qsnN s).2 else namE netR qsnN s) [qsnA,qsnB]=0
  rw[fstE_cons,aE (by rw[qsn_a,qsn_y,n1];simp),fstE_cons,aE (by rw[qsn_b,qsn_x,n2];simp)]
  rfl
 rw[chkP_eq,e1,aE zx,e2,aE zx,e3,aE zx]
 rfl
theorem qsnN_pre:preV netR qsnN 0=0:=by
 rw[preV,aG ⟨comp_netR,ntB_true qsnN_ok⟩,aG zd,qsnN_chk]
theorem qsnN_at:atP netR qsnN 0=(⟨qsnP,[]⟩,0):=by
 have p1:putP [] qsnA.cls (combP anB qsnW qsnY).1=([],0):=by rw[putP,aG (.inl sEq_e)]
 rw[atP,aE (by rw[qsn_real];simp),qsn_ord,atGo]
 simp only[show qsnN.sts[1]? =some qsnB from rfl,qsn_b]
 rw[aE (by rw[show(combP anB (realP netR).1 (qsnS sshS).1).2=0 from qsn_1];simp),aE (by rw[show(combP woB (realP netR).1 (qsnS sshS).1).2=0 from qsn_2];simp),aG (show qsnB.permit=false from rfl),atGo]
 simp only[show qsnN.sts[0]? =some qsnA from rfl,qsn_a]
 rw[aE (by rw[show(combP anB (combP woB (realP netR).1 (qsnS sshS).1).1 (qsnS eS).1).2=0 from qsn_3];simp),aE (by rw[show(combP woB (combP woB (realP netR).1 (qsnS sshS).1).1 (qsnS eS).1).2=0 from qsn_4];simp),aE zd]
 rw[aE (by rw[show(combP orB zPol.allow (combP anB (combP woB (realP netR).1 (qsnS sshS).1).1 (qsnS eS).1).1).2=0 from qsn_5];simp)]
 rw[show putP zPol.insp qsnA.cls (combP anB (combP woB (realP netR).1 (qsnS sshS).1).1 (qsnS eS).1).1=([],0)from p1]
 rfl
theorem qsnN_atV:atV netR qsnN 0=(⟨qsnP,[]⟩,0):=by rw[atV,aE (by rw[qsnN_pre];simp),qsnN_at]
theorem qsnN_dec:decV netR qsnN 0 qsnH=(false,1):=by
 have e:(ordP qsnN 0).find? (hitN netR qsnN (hdQ qsnH))=some 1:=by
  rw[qsn_ord,List.find?_cons]
  have:hitN netR qsnN (hdQ qsnH) 1=true:=by
   rw[<-hit_con (show qsnN.sts[1]? =some qsnB from rfl) qsnH_ok,qsn_b];exact qsn_xh
  rw[this]
 rw[decV,aE (by rw[qsnN_pre];simp),decH,aG qsn_re,e]
 rfl
theorem qsnN_pol:PolOk netR ⟨qsnP,[]⟩:=by
 have:=atP_ok (m:=0) comp_netR (ntB_true qsnN_ok) (by rw[qsnN_at])
 rwa[qsnN_at]at this
theorem coLNet{K:KT}(hK:K (encT netR) []):ACall Tryz.prog 41 [] [] K:=by
 refine ACall.weak (ofoLNet rfl rfl ?_)
 (repeat' ((conv=>whnf);first|(refine cwSub0 ?_)|(refine cwSub4 ?_)|refine zG ?_|apply zA|(apply zI;intro h)|exact zT));(all_goals conv=>whnf)
 exact⟨encT netR,Weak.agg (ys:=[_,.lst [],_,.lst [],_]) ⟨Weak.refl,Weak.nils,Weak.refl,Weak.nils,Weak.refl,trivial⟩,hK⟩
theorem coSan{K:KT}(hK:K (.sb true) []):ACall Tryz.prog 19 [] [] K:=by
 have sat:∀{K:KT},K (.tup [encPol ⟨qsnP,[]⟩,.v (.int .i64 0)]) []->ACall Tryz.prog 12 [encT netR,encNt qsnN,.v (.int .i64 0)] [] K:=fun h=>coAt netR zd zd qsnN qsnN_bnd zd 0 (by rw[qsnN_atV];exact h)
 have sdc:∀{K:KT},K (.tup [.sb false,.v (.int .i64 1)]) []->ACall Tryz.prog 21 [encT netR,encNt qsnN,.v (.int .i64 0),encHd qsnH] [] K:=fun h=>coDec netR zd zd qsnN qsnN_bnd zd 0 qsnH qsnH_ok (by rw[qsnN_dec];exact h)
 have sc1:∀{K:KT},K (.sb false) []->ACall Tryz.prog 22 [encXs qsnP,encHd qsnH] [] K:=fun h=>eyCont qsnP qsnH qsnH_ok (setBlen (setB_combP ..)) (by rw[qsn_h];exact h)
 have sc2:∀{K:KT},K (.sb true) []->ACall Tryz.prog 22 [encXs qsnP,encHd qsnK] [] K:=fun h=>eyCont qsnP qsnK qsnK_ok (setBlen (setB_combP ..)) (by rw[qsn_k];exact h)
 have svl:∀{K:KT},K (.sb true) []->ACall Tryz.prog 23 [encT netR,encPol ⟨qsnP,[]⟩] [] K:=fun h=>cyVal netR ⟨qsnP,[]⟩ zd (setBlen (setB_combP ..)) zd (fun x hx=>by simp at hx) (by rw[polB_true qsnN_pol];exact h)
 have sod:∀{K:KT},K (.lst ([1,0].map vN)) []->ACall Tryz.prog 37 [encNt qsnN,.v (.int .i64 0)] [] K:=fun h=>coOrd qsnN qsnN_bnd zd 0 (by rw[ordV,aG ⟨ntB_true qsnN_ok,by decide⟩,qsn_ord];exact h)
 refine ACall.bool (ofoSan rfl rfl ?_)
 (repeat' ((conv=>whnf);first|(with_reducible refine coLNet ?_)|(refine sat ?_)|(refine sdc ?_)|(refine sc1 ?_)|(refine sc2 ?_)|(refine svl ?_)|(refine sod ?_)|(refine in_c zd ?_)|(refine Ix.intro rfl ?_)|refine zG ?_|apply zA|(apply zI;intro h)|exact zT));(all_goals conv=>whnf)
 all_goals first
  |exact fin_s hK rfl
  |exact fin_t hK rfl
  |exact absurd rfl h
end Go.Proofs.YtbdikofefjljoaaGreatDoor
