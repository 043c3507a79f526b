/- Lemmas. -/
import Derived.Test.YtnomkooikbhgmaaGreatDoorM34
set_option linter.unusedVariables false
set_option linter.unusedSimpArgs false
set_option maxRecDepth 100000
set_option maxHeartbeats 4000000
noncomputable section
namespace Go.Proofs.YtnomkooikbhgmaaGreatDoor
open Go Go.Vm
section
variable {I:List (Int×Rg)}
end
theorem enTop3f(raw:List Int)(pos:Nat)(hp:pos<=raw.length)(hr:raw.length<=9223372036854775807){K:KT}
  (hK:∀(t:Tp) (pos':Nat),GTop t->t.devs.length<=3->pos'<=raw.length->K (encT t) [tapeO raw pos']):
  AC 24 [.op 0 0,.v (.int .i64 3)] [tapeO raw pos] K:=by
 refine ACall_fin (cnTop raw pos 3 zd hp hr fun t p h1 h2 h3=>?_);(repeat' ((conv=>whnf);first|(with_reducible refine sl_full (aA ..) ?_)|refine zG ?_|apply zA|intro h|exact zT));all_goals conv=>whnf
 exact hK t p h1 zo h3
theorem bindE_set{α:Type}{x:α×Int}{k:α->List Bx×Int}(h:setB (k x.1).1=true):setB (bindE x k).1=true:=by
 unfold bindE;split
 ·exact setB_nil
 ·exact h
theorem stmP_set(t:Tp)(i:Nt)(s:Sm):setB (stmP t i s).1=true:=by
 unfold stmP;refine bindE_set (bindE_set (bindE_set (bindE_set (bindE_set (bindE_set ?_)))));split
 ·exact setB_combP ..
 ·exact bindE_set (setB_combP ..)
def realH(t:Tp)(g:Hd):Bool:=decide (0<=edgeAt t g.src/\0<=edgeAt t g.dst/\edgeAt t g.src≠edgeAt t g.dst)&&initS.any fun b=>conB b g
def decH(t:Tp)(i:Nt)(m:Int)(g:Hd):Option Nat:=if realH t g=true then(ordP i m).find? (hitN t i (hdQ g))else none
def decV(t:Tp)(i:Nt)(m:Int)(g:Hd):Bool×Int:=if preV t i m≠0 then(false,-1)else match decH t i m g with
 |some n=>(perN i n,(n:Int))
 |none=>(false,-1)
theorem pre_ok{t:Tp}{i:Nt}{m:Int}(h:preV t i m=0):(compB t=true/\ntB i=true)/\(0<=m/\m<10080)/\chkP t i=0:=by
 unfold preV at h;have hcn:compB t=true/\ntB i=true:=Decidable.byContradiction fun h'=>by rw[aD h']at h;cases h
 rw[aG hcn]at h;have hmm:0<=m/\m<10080:=Decidable.byContradiction fun h'=>by rw[aD h']at h;cases h
 rw[aG hmm]at h;exact⟨hcn,hmm,h⟩
theorem hit_con{t:Tp}{i:Nt}{n:Nat}{x:Sm}(hx:i.sts[n]? =some x){g:Hd}(ho:g.Ok):((stmP t i x).1.any fun b=>conB b g)=hitN t i (hdQ g) n:=by
 rw[con_mem (stmP_set t i x) ho];simp[hitN,hx]
theorem findQ_drop{α:Type}{p:α->Bool}:∀{l:List α} {k:Nat},(∀(j:Nat) x,j<k->l[j]? =some x->p x=false)->l.find? p=(l.drop k).find? p
 |[],k,_=>by simp
 |x::l,0,_=>rfl
 |x::l,k+1,h=>by
  rw[List.find?_cons,h 0 x zo rfl,List.drop_succ_cons];exact findQ_drop fun j y hj hy=>h (j+1) y zo (by simpa using hy)
theorem findQ_at{α:Type}{p:α->Bool}{l:List α}{k:Nat}{x:α}(hx:l[k]? =some x)(hp:p x=true)(h:∀(j:Nat) x,j<k->l[j]? =some x->p x=false):l.find? p=some x:=by
 have hk:=(aP.1 hx).1;rw[findQ_drop h,bB hk];rw[aE hk]at hx;rw[bE hx,List.find?_cons,hp]
theorem findQ_no{α:Type}{p:α->Bool}{l:List α}(h:∀(j:Nat) x,l[j]? =some x->p x=false):l.find? p=none:=by
 rw[List.find?_eq_none];intro x hx;obtain⟨j,hj⟩:=bN.1 hx;simp[h j x hj]
theorem coDec(t:Tp)(ht:t.edges.length<1000)(hd:t.devs.length<1000)(i:Nt)(hb:Bnd i)(hs:i.sts.length<=12)(m:Int)(g:Hd)(ho:g.Ok){K:KT}
  (hK:K (.tup [.sb (decV t i m g).1,.v (.int .i64 (decV t i m g).2)]) []):AC 16 [encT t,encNt i,.v (.int .i64 m),encHd g] [] K:=by
 have hKf:decV t i m g=(false,-1)->∃y,Weak (.tup [.v (.bool false),.v (.int .i64 (-1))]) y/\K y []:=fun he=>by
  rw[he]at hK;exact⟨_,gQ Weak.bool gM,hK⟩
 refine gP (ofoDec rfl rfl ?_);by_cases hp:preV t i m=0
 case neg=>
  have hz:decV t i m g=(false,-1):=by rw[decV,aG hp]
  (repeat' ((conv=>whnf);first|(with_reducible refine coChk t ht hd i hb m ?_)|refine zG ?_|apply zA|intro h|exact zT));all_goals conv=>whnf
  all_goals first
   |exact hKf hz
   |exact absurd zw hp
 obtain⟨hcn,hmm,hch⟩:=pre_ok hp;have hord:ordV i m=ordP i m:=by rw[ordV,aG ⟨hcn.2,hmm⟩]
 have hchk:∀{K:KT},K (.v (.int .i64 0)) []->AC 27 [encT t,encNt i,.v (.int .i64 m)] [] K:=fun h=>coChk t ht hd i hb m (by rw[hp];exact h);have hoc:∀{K:KT},K (.lst ((ordP i m).map vN)) []->AC 19 [encNt i,.v (.int .i64 m)] [] K:=fun h=>coOrd i hb hs m (by rw[hord];exact h);have hv:decV t i m g=match decH t i m g with
  |some n=>(perN i n,(n:Int))
  |none=>(false,-1):=by rw[decV,aD zo]
 (repeat' ((conv=>whnf);first|(with_reducible first|refine hchk ?_|refine coTAt t g.src ho.s0 ho.s1 zo ?_|refine coTAt t g.dst ho.d0 ho.d1 zo ?_|refine cxInit ?_|refine coPCon initS g ho zd ?_|refine hoc ?_)|refine zG ?_|apply zA|intro h|exact zT));all_goals conv=>whnf
 all_goals first
  |(refine hKf (by
     rw[hv,decH,aD (by
      rw[realH,aJ,aL]
      rintro⟨⟨_,_,_⟩,_⟩
      first|omega|simp_all)])
    done)
  |skip
 have hreal:realH t g=true:=by
  rw[realH,aJ,aL];refine⟨⟨by omega,by omega,by omega⟩,by with_reducible assumption⟩
 rw[decH,aG hreal]at hv;refine gL Nat (fun k=>⟨3,[(0,boxT t),(1,boxNt i),(2,.box (clHd g))],[(2,.v (.int .i64 m)),(4,.op 0 0),(5,.op 1 0),(7,.op 2 0),(48,.lst ((ordP i m).map vN)),(49,.v (.int .i64 (((ordP i m).map vN).length:Nat))),(50,.v (.int .i64 k))]⟩) (fun k=>k<=(ordP i m).length/\∀(j:Nat) n,j<k->(ordP i m)[j]? =some n->hitN t i (hdQ g) n=false) (fun k=>(ordP i m).length-k) 0 ⟨aK _,fun j n h=>absurd h (bC _)⟩ ?_ ?_
 ·exact leA
 have hol:(ordP i m).length<=12:=aZ (ordP_len (nt_pri hcn.2)) hs;intro k ⟨hk,hin⟩;rcases aF k (ordP i m).length with hkl|hkl
 ·obtain⟨n,hn⟩:∃n,(ordP i m)[k]? =some n:=⟨_,aE hkl⟩
  have hnl:=ordF_lt (aI hn);obtain⟨x,hx⟩:=gex hnl;have hse:=chk_stm hch x (aI hx);have hsv:stmV t i (n:Int)=((stmP t i x).1,0):=by
   rw[stmV,aG hcn,aD zo,eJ,hx];exact Prod.ext rfl hse
  have hst:∀{K:KT},K (.tup [encXs (stmP t i x).1,.v (.int .i64 0)]) []->AC 29 [encT t,encNt i,.v (.int .i64 n)] [] K:=fun h=>
   crStatement t zo i hb n (by rw[hsv];exact h)
  have hcon:∀{K:KT},K (.sb (hitN t i (hdQ g) n)) []->AC 54 [encXs (stmP t i x).1,encHd g] [] K:=fun h=>coPCon _ g ho (setBlen (stmP_set t i x)) (by rw[hit_con hx ho];exact h);have hper:perN i n=x.permit:=by simp[perN,hx]
  (repeat' ((conv=>whnf);first|(with_reducible first|refine hU hkl ?_|refine hJ hn ?_|refine hst ?_|refine hcon ?_|refine hU hnl ?_|refine hJ hx ?_)|refine zG ?_|apply zA|intro h|exact zT));all_goals conv=>whnf
  all_goals first
   |(have e:decV t i m g=(x.permit,(n:Int)):=by
      rw[hv,findQ_at hn zw hin];exact Prod.ext hper rfl
     rw[e]at hK;exact⟨_,gM,hK⟩)
   |(refine⟨k+1,⟨hkl,iC hn zw hin⟩,by omega,?_⟩
     rw[aO,aN];exact leA)
 ·(repeat' ((conv=>whnf);first|refine zG ?_|apply zA|intro h|exact zT));all_goals conv=>whnf
  rw[findQ_no (iB hkl hin)]at hv;exact hKf hv
theorem putG_R{c:ByteArray}{s:List Bx}(hc:c.toList≠[])(hs:s≠[]):∀l:List Insp,PutR l c s (putG l c s).1 (putG l c s).2
 |[]=>PutR.ins 0 hc hs (aM _) (fun j y h=>absurd h (bC _)) (fun y h=>by simp at h)
 |y::r=>by
  have ih:=putG_R hc hs r;unfold putG;split
  ·rename_i h1;generalize putG r c s=q at*;obtain⟨l',e⟩:=q;simp only at ih⊢;cases ih with
   |skip h=>exact absurd h (by rintro(h|h);exact hc h;exact hs h)
   |ins k a1 a2 a3 a4 a5=>
    exact PutR.ins (l:=y::r) (k+1) a1 a2 (by simp only[aB];omega) (fun j z hj hz=>by
     cases j with
     |zero=>cases hz;exact h1
     |succ j=>exact a4 j z zo (by simpa using hz)) (fun z hz=>a5 z (by simpa using hz))
   |uni k z a1 a2 a3 a4=>exact PutR.uni (l:=y::r) (k+1) z a1 a2 (by simpa using a3) a4
  ·rename_i h1;split
   ·rename_i h2;exact PutR.uni (l:=y::r) 0 y hc hs rfl h2
   ·rename_i h2;exact PutR.ins (l:=y::r) 0 hc hs (aK _) (fun j z h=>absurd h (bC _)) (fun z hz=>by
     cases hz;exact⟨by simpa using h1,by simpa[sEq]using h2⟩)
theorem putP_R(l:List Insp)(c:ByteArray)(s:List Bx):PutR l c s (putP l c s).1 (putP l c s).2:=by
 have he:(sEq c ⟨#[]⟩=true)↔c.toList=[]:=by
  unfold sEq;have:(ByteArray.mk #[]).toList=[]:=by decide+kernel
  rw[this];simp
 unfold putP;split
 ·rename_i h;rw[he]at h;exact PutR.skip h
 ·rename_i h;rw[he]at h;exact putG_R (fun e=>h (.inl e)) (fun e=>h (.inr e)) l
theorem atGo_inv{t:Tp}{i:Nt}(hc:∀x,x∈i.sts->x.cls.toList=[]\/nameOk x.cls):∀(l:List Nat) (rest:List Bx) (p:Pol),AtInv t rest p->(atGo t i l rest p).2=0->∃r,AtInv t r (atGo t i l rest p).1
 |[],rest,p,h,_=>⟨rest,h⟩
 |n::l,rest,p,h,he=>by
  rw[atGo]at he⊢;cases hx:i.sts[n]? with
  |none=>exact⟨rest,h⟩
  |some x=>
   have hxc:=hc x (aI hx);have hs:=stmP_set t i x;simp only[hx]at he⊢;split at he
   ·rename_i h1;exact absurd he h1
   rename_i e1;rw[aD e1];split at he
   ·rename_i h1;exact absurd he h1
   rename_i e2;rw[aD e2];split at he
   ·rename_i hp;rw[aG hp];exact atGo_inv hc l _ p (h.deny hs) he
   ·rename_i hp;rw[aD hp];split at he
    ·rename_i h1;exact absurd he h1
    rename_i e3;rw[aD e3];split at he
    ·rename_i h1;exact absurd he h1
    rename_i e4;rw[aD e4];exact atGo_inv hc l _ _ (h.permit hs hxc (Decidable.byContradiction e1) (Decidable.byContradiction e2) (Decidable.byContradiction e3) (putP_R _ _ _) (Decidable.byContradiction e4)) he
theorem nt_cls{i:Nt}(h:ntB i=true):∀x,x∈i.sts->x.cls.toList=[]\/nameOk x.cls:=fun x hx=>by
 have:=(ntB_iff.1 h).t x hx;unfold smB at this;simp only[aJ]at this;have h1:=this.1.2.2.2.1;unfold optB at h1;rw[bS]at h1;rcases h1 with h1|h1
 ·left;have:=sEq_iff.1 h1;rw[this];decide+kernel
 ·exact .inr (nameB_iff.1 h1)
theorem atP_ok{t:Tp}{i:Nt}{m:Int}(hc:compB t=true)(hn:ntB i=true)(he:(atP t i m).2=0):PolOk t (atP t i m).1:=by
 unfold atP at he⊢;split at he
 ·rename_i h;exact absurd he h
 rename_i h;rw[aD h];obtain⟨r,hr⟩:=atGo_inv (t:=t) (nt_cls hn) (ordP i m) (realP t).1 zPol (atInv_start t) he;exact hr.pol hc
def tryP(g:ByteArray->Option (List Bx))(rest allow:List Bx)(x:Sm)(S:List Bx):Int×List Bx×List Bx×(ByteArray->Option (List Bx)):=
 if(combP anB rest S).2≠0 then((combP anB rest S).2,rest,allow,g)else
 if(combP woB rest S).2≠0 then((combP woB rest S).2,(combP woB rest S).1,allow,g)else
 if x.permit=false then(0,(combP woB rest S).1,allow,g)else
 if(combP orB allow (combP anB rest S).1).2≠0 then((combP orB allow (combP anB rest S).1).2,(combP woB rest S).1,(combP orB allow (combP anB rest S).1).1,g)else
 if sEq x.cls ⟨#[]⟩=true then(0,(combP woB rest S).1,(combP orB allow (combP anB rest S).1).1,g)else
 ((combP orB ((g x.cls).getD []) (combP anB rest S).1).2,(combP woB rest S).1,(combP orB allow (combP anB rest S).1).1,updS g x.cls (combP orB ((g x.cls).getD []) (combP anB rest S).1).1)
theorem putG_len(c:ByteArray)(s:List Bx):∀l:List Insp,(putG l c s).1.length<=l.length+1
 |[]=>by simp[putG]
 |y::r=>by
  have:=putG_len c s r;unfold putG;split
  ·simp only[aB];omega
  ·split<;>simp
theorem putP_len(c:ByteArray)(s:List Bx)(l:List Insp):(putP l c s).1.length<=l.length+1:=by
 unfold putP;split
 ·simp
 ·exact putG_len c s l
theorem try_step{t:Tp}{i:Nt}{n:Nat}{r:List Nat}{x:Sm}(hx:i.sts[n]? =some x){g:ByteArray->Option (List Bx)}{rest:List Bx}{p:Pol}(hg:MapR g p.insp):
  ((tryP g rest p.allow x (stmP t i x).1).1≠0->atGo t i (n::r) rest p=(zPol,(tryP g rest p.allow x (stmP t i x).1).1))/\
  ((tryP g rest p.allow x (stmP t i x).1).1=0->setB rest=true->setB p.allow=true->∃l,atGo t i (n::r) rest p=atGo t i r (tryP g rest p.allow x (stmP t i x).1).2.1 ⟨(tryP g rest p.allow x (stmP t i x).1).2.2.1,l⟩/\l.length<=p.insp.length+1/\MapR (tryP g rest p.allow x (stmP t i x).1).2.2.2 l/\
    setB (tryP g rest p.allow x (stmP t i x).1).2.1=true/\setB (tryP g rest p.allow x (stmP t i x).1).2.2.1=true):=by
 unfold tryP;rw[atGo];simp only[hx];by_cases h1:(combP anB rest (stmP t i x).1).2≠0
 ·rw[aG h1,aG h1];exact⟨fun _=>rfl,fun h=>absurd h h1⟩
 rw[aD h1,aD h1];by_cases h2:(combP woB rest (stmP t i x).1).2≠0
 ·rw[aG h2,aG h2];exact⟨fun _=>rfl,fun h=>absurd h h2⟩
 rw[aD h2,aD h2];by_cases h3:x.permit=false
 ·rw[aG h3,aG h3];exact⟨fun h=>absurd rfl h,fun _ _ ha=>⟨p.insp,rfl,by omega,hg,setB_combP ..,ha⟩⟩
 rw[aD h3,aD h3];by_cases h4:(combP orB p.allow (combP anB rest (stmP t i x).1).1).2≠0
 ·rw[aG h4,aG h4];exact⟨fun _=>rfl,fun h=>absurd h h4⟩
 rw[aD h4,aD h4];by_cases h5:sEq x.cls ⟨#[]⟩=true
 ·rw[aG h5];have hp:putP p.insp x.cls (combP anB rest (stmP t i x).1).1=(p.insp,0):=by rw[putP,aG (.inl h5)]
  rw[hp,aD zx];exact⟨fun h=>absurd rfl h,fun _ _ _=>⟨p.insp,rfl,by omega,hg,setB_combP ..,setB_combP ..⟩⟩
 rw[aD h5];obtain⟨m1,m2⟩:=hg.put (c:=x.cls) (by simpa using h5) (setB_combP anB rest (stmP t i x).1);by_cases h6:(putP p.insp x.cls (combP anB rest (stmP t i x).1).1).2≠0
 ·rw[aG h6];exact⟨fun _=>by rw[m1],fun h=>by rw[m1]at h6;exact absurd h h6⟩
 ·rw[aD h6];exact⟨fun h=>by rw[m1]at h6;exact absurd h h6,fun _ _ _=>⟨_,rfl,putP_len ..,m2 (Decidable.byContradiction h6),setB_combP ..,setB_combP ..⟩⟩
/-! the sets of the classes out of the map, in whatever order -/
def outK(g:ByteArray->Option (List Bx))(k:ByteArray):List Insp:=match g k with
 |some s=>if s=[]then []else [⟨k,s⟩]
 |none=>[]
def outL(g:ByteArray->Option (List Bx))(L:List ByteArray):List Insp:=L.flatMap (outK g)
theorem outK_mem{g:ByteArray->Option (List Bx)}{k:ByteArray}{x:Insp}:x∈outK g k↔x.cls=k/\g k=some x.set/\x.set≠[]:=by
 unfold outK;cases h:g k with
 |none=>simp
 |some s=>
  simp only;split
  ·rename_i e;subst e;simp only[dM,bQ,false_iff]
   rintro⟨_,h1,h2⟩;exact h2 h1.symm
  ·rename_i e;simp only[aV,bQ];constructor
   ·rintro rfl;exact⟨rfl,rfl,e⟩
   ·rintro⟨rfl,rfl,_⟩;rfl
theorem outL_cls(g:ByteArray->Option (List Bx)):∀L:List ByteArray,((outL g L).map Insp.cls).Sublist L
 |[]=>by simp[outL]
 |k::L=>by
  have ih:=outL_cls g L;unfold outL at ih⊢;rw[cX,aQ];unfold outK;cases h:g k with
  |none=>exact ih.cons k
  |some s=>
   simp only;split
   ·exact ih.cons k
   ·exact ih.cons_cons k
theorem od_nodup{l:List Insp}(h:l.Pairwise fun x y=>ltS x.cls y.cls=true):l.Nodup:=
 h.imp fun hab e=>by rw[e,ltS_irr]at hab;cases hab
theorem out_perm{g:ByteArray->Option (List Bx)}{l:List Insp}(h:MapR g l){L:List ByteArray}(hn:L.Nodup)(hm:∀k,k∈L↔∃s,g k=some s):(outL g L).Perm l:=by
 refine(List.perm_ext_iff_of_nodup ?_ (od_nodup h.od)).2 fun x=>?_
 ·have h1:=(outL_cls g L).nodup hn;rw[List.Nodup,fN]at h1;exact h1.imp fun hab e=>hab (by rw[e])
 ·unfold outL;rw[eD,h.mem x];constructor
  ·rintro⟨k,_,hk⟩
   obtain⟨rfl,h1,h2⟩:=outK_mem.1 hk;exact⟨h1,h2⟩
  ·rintro⟨h1,h2⟩
   exact⟨x.cls,(hm _).2 ⟨_,h1⟩,outK_mem.2 ⟨rfl,h1,h2⟩⟩
theorem outL_mid(g:ByteArray->Option (List Bx))(C:List Insp)(l1:List ByteArray)(k:ByteArray)(l2:List ByteArray):(C++outL g (l1++k::l2)).Perm ((C++outK g k)++outL g (l1++l2)):=by
 unfold outL;rw[dZ,cX,dZ,cN];refine List.Perm.append_left C ?_;rw[<-cN,<-cN];exact List.Perm.append_right _ List.perm_append_comm
/-! the sort by insertion sorts -/
section
variable {α:Type} {lt:α->α->Bool} (h1:∀a b,lt a b=true->lt b a=false) (h2:∀a b c,lt a b=false->lt b c=false->lt a c=false)
include h1 h2
theorem insRev_sorted{x:α}:∀{l:List α},l.Pairwise (fun a b=>lt a b=false)->(insRev lt l x).Pairwise fun a b=>lt a b=false
 |[],_=>by simp[insRev]
 |y::ys,h=>by
  obtain⟨a1,a2⟩:=bT.1 h;simp only[insRev];split
  ·rename_i hxy;refine bT.2 ⟨fun z hz=>?_,insRev_sorted a2⟩;rcases insRev_mem.1 hz with rfl|hz
   ·exact h1 _ _ hxy
   ·exact a1 z hz
  ·rename_i hxy;have hxy:lt x y=false:=by simpa using hxy
   refine bT.2 ⟨fun z hz=>?_,h⟩;rcases aU.1 hz with rfl|hz
   ·exact hxy
   ·exact h2 _ _ _ hxy (a1 z hz)
theorem isort_sorted(l:List α):(isort lt l).Pairwise fun a b=>lt b a=false:=by
 unfold isort sortRev;rw[List.pairwise_reverse]
 suffices h:∀(l acc:List α),acc.Pairwise (fun a b=>lt a b=false)->(l.foldl (insRev lt) acc).Pairwise fun a b=>lt a b=false from h l [] List.Pairwise.nil
 intro l
 induction l with
 |nil=>intro acc h;exact h
 |cons x l ih=>intro acc h;exact ih _ (insRev_sorted h1 h2 h)
end
theorem ltS_as(a b:ByteArray)(h:ltS a b=true):ltS b a=false:=(bl_asymm _ _ h).1
theorem ltS_nt(a b c:ByteArray)(h:ltS a b=false)(h':ltS b c=false):ltS a c=false:=by
 rw[bV];intro hac;by_cases e:(b.toList==c.toList)=true
 ·have e':b=c:=sEq_iff.1 e;rw[e',hac]at h;cases h
 ·have hcb:ltS c b=true:=bl_total _ _ h' (by simpa using e);have:ltS a b=true:=bl_trans _ _ _ hac hcb;rw[this]at h;cases h
theorem sorted_eq:∀{l m:List Insp},l.Perm m->l.Pairwise (fun x y=>ltS x.cls y.cls=true)->m.Pairwise (fun x y=>ltS x.cls y.cls=true)->l=m
 |[],m,h,_,_=>(List.Perm.nil_eq h)
 |x::l,[],h,_,_=>absurd h.length_eq zx
 |x::l,y::m,h,h1,h2=>by
  obtain⟨a1,a2⟩:=bT.1 h1;obtain⟨b1,b2⟩:=bT.1 h2;have hxy:x=y:=by
   rcases aU.1 (h.subset (fY))with e|hx
   ·exact e
   ·rcases aU.1 (h.symm.subset (fY))with e|hy
    ·exact e.symm
    ·have c1:=b1 x hx;have c2:=a1 y hy;have:=ltS_as _ _ c1;rw[c2]at this;cases this
  subst hxy;rw[sorted_eq (List.perm_cons x|>.1 h) a2 b2]
def cmpB(a b:ByteArray):Int:=if ltS a b=true then-1 else if ltS b a=true then 1 else 0
theorem cmpB_lt(a b:ByteArray):decide (cmpB a b<0)=ltS a b:=by
 unfold cmpB;by_cases h1:ltS a b=true
 ·simp[h1]
 ·by_cases h2:ltS b a=true<;>simp[h1,h2]
theorem insp_sort{C l:List Insp}(hp:C.Perm l)(hl:l.Pairwise fun x y=>ltS x.cls y.cls=true):isort (fun x y=>decide (cmpB x.cls y.cls<0)) C=l:=by
 have e:(fun x y:Insp=>decide (cmpB x.cls y.cls<0))=fun x y=>ltS x.cls y.cls:=by funext x y;exact cmpB_lt _ _
 rw[e];have hs:=isort_sorted (lt:=fun x y:Insp=>ltS x.cls y.cls) (fun a b h=>ltS_as _ _ h) (fun a b c h h'=>ltS_nt _ _ _ h h') C;have hpm:(isort (fun x y:Insp=>ltS x.cls y.cls) C).Perm l:=(isort_perm _ C).trans hp;refine sorted_eq hpm ?_ hl;have hnd:((isort (fun x y:Insp=>ltS x.cls y.cls) C).map Insp.cls).Nodup:=by
  rw[(hpm.map Insp.cls).nodup_iff,List.Nodup,fN];exact hl.imp fun hab e=>by rw[e,ltS_irr]at hab;cases hab
 rw[List.Nodup,fN]at hnd;refine List.Pairwise.imp₂ (fun a b h1 h2=>?_) hs hnd;exact bl_total _ _ h1 (by
  rw[bV];intro e;exact h2 (sEq_iff.1 e).symm)
theorem err_make(l:List Bx):(makeP l).2=0\/(makeP l).2=3:=by
 have:∀(l s:List Bx),(makeGo s l).2=0\/(makeGo s l).2=3:=by
  intro l
  induction l with
  |nil=>intro s;exact .inl rfl
  |cons b l ih=>
   intro s;rw[makeGo];split
   ·split
    ·exact .inr rfl
    ·exact ih _
   ·exact ih _
 exact this l []
theorem err_giv(l:List Bx):(givP l).2=0\/(givP l).2=3:=by
 unfold givP;split
 ·exact .inl rfl
 ·exact err_make l
theorem err_comb(op:Bool->Bool->Bool)(a b:List Bx):(combP op a b).2=0\/(combP op a b).2=3:=by
 unfold combP;split
 ·rename_i h;rcases err_giv a with h1|h1
  ·exact absurd h1 h
  ·exact .inr h1
 ·split
  ·rename_i h;rcases err_giv b with h1|h1
   ·exact absurd h1 h
   ·exact .inr h1
  ·simp only[limE];split
   ·exact .inr rfl
   ·exact .inl rfl
def ErrL(e:Int):Prop:=e=0\/e=3\/e=5\/e=8
theorem ErrL.two{e:Int}(h:e=0\/e=3):ErrL e:=by rcases h with h|h<;>simp[ErrL,h]
theorem err_real(t:Tp):(realP t).2=0\/(realP t).2=3:=by
 unfold realP;split
 ·exact err_make _
 ·exact err_comb ..
theorem err_putG(c:ByteArray)(s:List Bx):∀l:List Insp,(putG l c s).2=0\/(putG l c s).2=3
 |[]=>.inl rfl
 |y::r=>by
  unfold putG;split
  ·exact err_putG c s r
  ·split
   ·exact err_comb ..
   ·exact .inl rfl
theorem err_put(l:List Insp)(c:ByteArray)(s:List Bx):(putP l c s).2=0\/(putP l c s).2=3:=by
 unfold putP;split
 ·exact .inl rfl
 ·exact err_putG c s l
theorem err_atGo(t:Tp)(i:Nt):∀(l:List Nat) (rest:List Bx) (p:Pol),((atGo t i l rest p).2=0\/(atGo t i l rest p).2=3)/\((atGo t i l rest p).2≠0->(atGo t i l rest p).1=zPol)
 |[],rest,p=>⟨.inl rfl,fun h=>absurd rfl h⟩
 |n::l,rest,p=>by
  rw[atGo];cases i.sts[n]? with
  |none=>exact⟨.inl rfl,fun h=>absurd rfl h⟩
  |some x=>
   simp only;split
   ·exact⟨err_comb ..,fun _=>rfl⟩
   split
   ·exact⟨err_comb ..,fun _=>rfl⟩
   split
   ·exact err_atGo t i l _ _
   split
   ·exact⟨err_comb ..,fun _=>rfl⟩
   split
   ·exact⟨err_put ..,fun _=>rfl⟩
   ·exact err_atGo t i l _ _
theorem err_at(t:Tp)(i:Nt)(m:Int):((atP t i m).2=0\/(atP t i m).2=3)/\((atP t i m).2≠0->(atP t i m).1=zPol):=by
 unfold atP;split
 ·exact⟨err_real t,fun _=>rfl⟩
 ·exact err_atGo ..
theorem atV_ok{t:Tp}{i:Nt}{m:Int}(he:(atV t i m).2=0):preV t i m=0/\atV t i m=atP t i m/\(atP t i m).2=0:=by
 unfold atV at he;by_cases h:preV t i m=0
 ·rw[aD zo]at he;exact⟨h,by rw[atV,aD zo],he⟩
 ·rw[aG h]at he;exact absurd he h
theorem atGo_few(t:Tp)(i:Nt):∀(l:List Nat) (rest:List Bx) (p:Pol),(atGo t i l rest p).1.insp.length<=p.insp.length+l.length
 |[],rest,p=>aM _
 |n::l,rest,p=>by
  rw[atGo];cases i.sts[n]? with
  |none=>exact Nat.le_add_right _ _
  |some x=>
   simp only;split
   ·exact aK _
   split
   ·exact aK _
   split
   ·have:=atGo_few t i l (combP woB rest (stmP t i x).1).1 p;rw[aB];omega
   split
   ·exact aK _
   split
   ·exact aK _
   ·refine aZ (atGo_few t i l _ _) ?_;have:=putP_len x.cls (combP anB rest (stmP t i x).1).1 p.insp;rw[aB];simp only;omega
theorem atP_few{t:Tp}{i:Nt}{m:Int}(hn:ntB i=true):(atP t i m).1.insp.length<=i.sts.length:=by
 unfold atP;split
 ·exact aK _
 ·have h1:=atGo_few t i (ordP i m) (realP t).1 zPol;have h2:=ordP_len (i:=i) (m:=m) (fun x hx=>by
   have:=(ntB_iff.1 hn).t x hx;unfold smB at this;simp only[aJ,aL]at this;exact this.2.2.2)
  have h3:zPol.insp.length=0:=rfl;omega
end Go.Proofs.YtnomkooikbhgmaaGreatDoor
