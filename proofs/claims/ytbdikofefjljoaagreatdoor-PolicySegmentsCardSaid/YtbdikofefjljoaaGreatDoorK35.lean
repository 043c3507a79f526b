/- The program's way to the policy at a minute: plain. -/
import Derived.Test.YtbdikofefjljoaaGreatDoorK34
set_option linter.unusedVariables false
set_option linter.unusedSimpArgs false
set_option maxRecDepth 100000
set_option maxHeartbeats 4000000
namespace Go.Proofs.YtbdikofefjljoaaGreatDoor
open Go Go.Vm
noncomputable def tryP(g:ByteArray->Option (List Bx))(rest allow:List Bx)(x:Sm)(S:List Bx):Int×List Bx×List Bx×(ByteArray->Option (List Bx)):=
 if(combP anB rest S).2≠0 then((combP anB rest S).2,rest,allow,g)else
 if(combP woB rest S).2≠0 then((combP woB rest S).2,(combP woB rest S).1,allow,g)else
 if x.permit=false then(0,(combP woB rest S).1,allow,g)else
 if(combP orB allow (combP anB rest S).1).2≠0 then((combP orB allow (combP anB rest S).1).2,(combP woB rest S).1,(combP orB allow (combP anB rest S).1).1,g)else
 if sEq x.cls ⟨#[]⟩=true then(0,(combP woB rest S).1,(combP orB allow (combP anB rest S).1).1,g)else
 ((combP orB ((g x.cls).getD []) (combP anB rest S).1).2,(combP woB rest S).1,(combP orB allow (combP anB rest S).1).1,updS g x.cls (combP orB ((g x.cls).getD []) (combP anB rest S).1).1)
theorem putG_len(c:ByteArray)(s:List Bx):∀l:List Insp,(putG l c s).1.length<=l.length+1
 |[]=>by simp[putG]
 |y::r=>by
  have:=putG_len c s r
  unfold putG
  split
  ·simp only[List.length_cons];omega
  ·split<;>simp
theorem putP_len(c:ByteArray)(s:List Bx)(l:List Insp):(putP l c s).1.length<=l.length+1:=by
 unfold putP
 split
 ·simp
 ·exact putG_len c s l
theorem try_step{t:Tp}{i:Nt}{n:Nat}{r:List Nat}{x:Sm}(hx:i.sts[n]? =some x){g:ByteArray->Option (List Bx)}{rest:List Bx}{p:Pol}(hg:MapR g p.insp):
  ((tryP g rest p.allow x (stmP t i x).1).1≠0->atGo t i (n::r) rest p=(zPol,(tryP g rest p.allow x (stmP t i x).1).1))/\
  ((tryP g rest p.allow x (stmP t i x).1).1=0->setB rest=true->setB p.allow=true->∃l,atGo t i (n::r) rest p=atGo t i r (tryP g rest p.allow x (stmP t i x).1).2.1 ⟨(tryP g rest p.allow x (stmP t i x).1).2.2.1,l⟩/\l.length<=p.insp.length+1/\MapR (tryP g rest p.allow x (stmP t i x).1).2.2.2 l/\
    setB (tryP g rest p.allow x (stmP t i x).1).2.1=true/\setB (tryP g rest p.allow x (stmP t i x).1).2.2.1=true):=by
 unfold tryP
 rw[atGo]
 simp only[hx]
 by_cases h1:(combP anB rest (stmP t i x).1).2≠0
 ·rw[if_pos h1,if_pos h1]
  exact⟨fun _=>rfl,fun h=>absurd h h1⟩
 rw[if_neg h1,if_neg h1]
 by_cases h2:(combP woB rest (stmP t i x).1).2≠0
 ·rw[if_pos h2,if_pos h2]
  exact⟨fun _=>rfl,fun h=>absurd h h2⟩
 rw[if_neg h2,if_neg h2]
 by_cases h3:x.permit=false
 ·rw[if_pos h3,if_pos h3]
  exact⟨fun h=>absurd rfl h,fun _ _ ha=>⟨p.insp,rfl,by omega,hg,setB_combP ..,ha⟩⟩
 rw[if_neg h3,if_neg h3]
 by_cases h4:(combP orB p.allow (combP anB rest (stmP t i x).1).1).2≠0
 ·rw[if_pos h4,if_pos h4]
  exact⟨fun _=>rfl,fun h=>absurd h h4⟩
 rw[if_neg h4,if_neg h4]
 by_cases h5:sEq x.cls ⟨#[]⟩=true
 ·rw[if_pos h5]
  have hp:putP p.insp x.cls (combP anB rest (stmP t i x).1).1=(p.insp,0):=by rw[putP,if_pos (.inl h5)]
  rw[hp,if_neg zx]
  exact⟨fun h=>absurd rfl h,fun _ _ _=>⟨p.insp,rfl,by omega,hg,setB_combP ..,setB_combP ..⟩⟩
 rw[if_neg h5]
 obtain⟨m1,m2⟩:=hg.put (c:=x.cls) (by simpa using h5) (setB_combP anB rest (stmP t i x).1)
 by_cases h6:(putP p.insp x.cls (combP anB rest (stmP t i x).1).1).2≠0
 ·rw[if_pos h6]
  exact⟨fun _=>by rw[m1],fun h=>by rw[m1]at h6;exact absurd h h6⟩
 ·rw[if_neg h6]
  exact⟨fun h=>by rw[m1]at h6;exact absurd h h6,fun _ _ _=>⟨_,rfl,putP_len ..,m2 (Decidable.byContradiction h6),setB_combP ..,setB_combP ..⟩⟩
/-! the sets of the classes out of the map, in whatever order -/
noncomputable def outK(g:ByteArray->Option (List Bx))(k:ByteArray):List Insp:=match g k with
 |some s=>if s=[]then []else [⟨k,s⟩]
 |none=>[]
noncomputable def outL(g:ByteArray->Option (List Bx))(L:List ByteArray):List Insp:=L.flatMap (outK g)
theorem outK_mem{g:ByteArray->Option (List Bx)}{k:ByteArray}{x:Insp}:x∈outK g k↔x.cls=k/\g k=some x.set/\x.set≠[]:=by
 unfold outK
 cases h:g k with
 |none=>simp
 |some s=>
  simp only
  split
  ·rename_i e
   subst e
   simp only[List.not_mem_nil,Option.some.injEq,false_iff]
   rintro⟨_,h1,h2⟩;exact h2 h1.symm
  ·rename_i e
   simp only[List.mem_singleton,Option.some.injEq]
   constructor
   ·rintro rfl;exact⟨rfl,rfl,e⟩
   ·rintro⟨rfl,rfl,_⟩;rfl
theorem outL_cls(g:ByteArray->Option (List Bx)):∀L:List ByteArray,((outL g L).map Insp.cls).Sublist L
 |[]=>by simp[outL]
 |k::L=>by
  have ih:=outL_cls g L
  unfold outL at ih⊢
  rw[List.flatMap_cons,List.map_append]
  unfold outK
  cases h:g k with
  |none=>exact ih.cons k
  |some s=>
   simp only
   split
   ·exact ih.cons k
   ·exact ih.cons_cons k
theorem od_nodup{l:List Insp}(h:l.Pairwise fun x y=>ltS x.cls y.cls=true):l.Nodup:=
 h.imp fun hab e=>by rw[e,ltS_irr]at hab;cases hab
theorem out_perm{g:ByteArray->Option (List Bx)}{l:List Insp}(h:MapR g l){L:List ByteArray}(hn:L.Nodup)(hm:∀k,k∈L↔∃s,g k=some s):(outL g L).Perm l:=by
 refine(List.perm_ext_iff_of_nodup ?_ (od_nodup h.od)).2 fun x=>?_
 ·have h1:=(outL_cls g L).nodup hn
  rw[List.Nodup,List.pairwise_map]at h1
  exact h1.imp fun hab e=>hab (by rw[e])
 ·unfold outL
  rw[List.mem_flatMap,h.mem x]
  constructor
  ·rintro⟨k,_,hk⟩
   obtain⟨rfl,h1,h2⟩:=outK_mem.1 hk
   exact⟨h1,h2⟩
  ·rintro⟨h1,h2⟩
   exact⟨x.cls,(hm _).2 ⟨_,h1⟩,outK_mem.2 ⟨rfl,h1,h2⟩⟩
theorem outL_mid(g:ByteArray->Option (List Bx))(C:List Insp)(l1:List ByteArray)(k:ByteArray)(l2:List ByteArray):(C++outL g (l1++k::l2)).Perm ((C++outK g k)++outL g (l1++l2)):=by
 unfold outL
 rw[List.flatMap_append,List.flatMap_cons,List.flatMap_append,List.append_assoc]
 refine List.Perm.append_left C ?_
 rw[<-List.append_assoc,<-List.append_assoc]
 exact List.Perm.append_right _ List.perm_append_comm
/-! the sort by insertion sorts -/
section
variable {α:Type} {lt:α->α->Bool} (h1:∀a b,lt a b=true->lt b a=false) (h2:∀a b c,lt a b=false->lt b c=false->lt a c=false)
include h1 h2
theorem insRev_sorted{x:α}:∀{l:List α},l.Pairwise (fun a b=>lt a b=false)->(insRev lt l x).Pairwise fun a b=>lt a b=false
 |[],_=>by simp[insRev]
 |y::ys,h=>by
  obtain⟨a1,a2⟩:=List.pairwise_cons.1 h
  simp only[insRev]
  split
  ·rename_i hxy
   refine List.pairwise_cons.2 ⟨fun z hz=>?_,insRev_sorted a2⟩
   rcases insRev_mem.1 hz with rfl|hz
   ·exact h1 _ _ hxy
   ·exact a1 z hz
  ·rename_i hxy
   have hxy:lt x y=false:=by simpa using hxy
   refine List.pairwise_cons.2 ⟨fun z hz=>?_,h⟩
   rcases List.mem_cons.1 hz with rfl|hz
   ·exact hxy
   ·exact h2 _ _ _ hxy (a1 z hz)
theorem isort_sorted(l:List α):(isort lt l).Pairwise fun a b=>lt b a=false:=by
 unfold isort sortRev
 rw[List.pairwise_reverse]
 suffices h:∀(l acc:List α),acc.Pairwise (fun a b=>lt a b=false)->(l.foldl (insRev lt) acc).Pairwise fun a b=>lt a b=false from h l [] List.Pairwise.nil
 intro l
 induction l with
 |nil=>intro acc h;exact h
 |cons x l ih=>intro acc h;exact ih _ (insRev_sorted h1 h2 h)
end
theorem ltS_as(a b:ByteArray)(h:ltS a b=true):ltS b a=false:=(bl_asymm _ _ h).1
theorem ltS_nt(a b c:ByteArray)(h:ltS a b=false)(h':ltS b c=false):ltS a c=false:=by
 rw[Bool.eq_false_iff]
 intro hac
 by_cases e:(b.toList==c.toList)=true
 ·have e':b=c:=sEq_iff.1 e
  rw[e',hac]at h;cases h
 ·have hcb:ltS c b=true:=bl_total _ _ h' (by simpa using e)
  have:ltS a b=true:=bl_trans _ _ _ hac hcb
  rw[this]at h;cases h
theorem sorted_eq:∀{l m:List Insp},l.Perm m->l.Pairwise (fun x y=>ltS x.cls y.cls=true)->m.Pairwise (fun x y=>ltS x.cls y.cls=true)->l=m
 |[],m,h,_,_=>(List.Perm.nil_eq h)
 |x::l,[],h,_,_=>absurd h.length_eq zx
 |x::l,y::m,h,h1,h2=>by
  obtain⟨a1,a2⟩:=List.pairwise_cons.1 h1
  obtain⟨b1,b2⟩:=List.pairwise_cons.1 h2
  have hxy:x=y:=by
   rcases List.mem_cons.1 (h.subset (List.mem_cons_self))with e|hx
   ·exact e
   ·rcases List.mem_cons.1 (h.symm.subset (List.mem_cons_self))with e|hy
    ·exact e.symm
    ·have c1:=b1 x hx
     have c2:=a1 y hy
     have:=ltS_as _ _ c1
     rw[c2]at this;cases this
  subst hxy
  rw[sorted_eq (List.perm_cons x|>.1 h) a2 b2]
def cmpB(a b:ByteArray):Int:=if ltS a b=true then-1 else if ltS b a=true then 1 else 0
theorem cmpB_lt(a b:ByteArray):decide (cmpB a b<0)=ltS a b:=by
 unfold cmpB
 by_cases h1:ltS a b=true
 ·simp[h1]
 ·by_cases h2:ltS b a=true<;>simp[h1,h2]
theorem insp_sort{C l:List Insp}(hp:C.Perm l)(hl:l.Pairwise fun x y=>ltS x.cls y.cls=true):isort (fun x y=>decide (cmpB x.cls y.cls<0)) C=l:=by
 have e:(fun x y:Insp=>decide (cmpB x.cls y.cls<0))=fun x y=>ltS x.cls y.cls:=by funext x y;exact cmpB_lt _ _
 rw[e]
 have hs:=isort_sorted (lt:=fun x y:Insp=>ltS x.cls y.cls) (fun a b h=>ltS_as _ _ h) (fun a b c h h'=>ltS_nt _ _ _ h h') C
 have hpm:(isort (fun x y:Insp=>ltS x.cls y.cls) C).Perm l:=(isort_perm _ C).trans hp
 refine sorted_eq hpm ?_ hl
 have hnd:((isort (fun x y:Insp=>ltS x.cls y.cls) C).map Insp.cls).Nodup:=by
  rw[(hpm.map Insp.cls).nodup_iff,List.Nodup,List.pairwise_map]
  exact hl.imp fun hab e=>by rw[e,ltS_irr]at hab;cases hab
 rw[List.Nodup,List.pairwise_map]at hnd
 refine List.Pairwise.imp₂ (fun a b h1 h2=>?_) hs hnd
 exact bl_total _ _ h1 (by
  rw[Bool.eq_false_iff]
  intro e
  exact h2 (sEq_iff.1 e).symm)
theorem err_make(l:List Bx):(makeP l).2=0\/(makeP l).2=3:=by
 have:∀(l s:List Bx),(makeGo s l).2=0\/(makeGo s l).2=3:=by
  intro l
  induction l with
  |nil=>intro s;exact .inl rfl
  |cons b l ih=>
   intro s
   rw[makeGo]
   split
   ·split
    ·exact .inr rfl
    ·exact ih _
   ·exact ih _
 exact this l []
theorem err_giv(l:List Bx):(givP l).2=0\/(givP l).2=3:=by
 unfold givP
 split
 ·exact .inl rfl
 ·exact err_make l
theorem err_comb(op:Bool->Bool->Bool)(a b:List Bx):(combP op a b).2=0\/(combP op a b).2=3:=by
 unfold combP
 split
 ·rename_i h
  rcases err_giv a with h1|h1
  ·exact absurd h1 h
  ·exact .inr h1
 ·split
  ·rename_i h
   rcases err_giv b with h1|h1
   ·exact absurd h1 h
   ·exact .inr h1
  ·simp only[limE]
   split
   ·exact .inr rfl
   ·exact .inl rfl
def ErrL(e:Int):Prop:=e=0\/e=3\/e=5\/e=8
theorem ErrL.two{e:Int}(h:e=0\/e=3):ErrL e:=by rcases h with h|h<;>simp[ErrL,h]
theorem ErrL.three{e:Int}(h:e=0\/e=5\/e=8):ErrL e:=by rcases h with h|h|h<;>simp[ErrL,h]
theorem err_bind{α:Type}{x:α×Int}{k:α->List Bx×Int}(h1:ErrL x.2)(h2:ErrL (k x.1).2):ErrL (bindE x k).2:=by
 unfold bindE
 split
 ·exact h1
 ·exact h2
theorem err_svcGo:∀(its:List It) (s:List Bx),ErrL (svcGo its s).2
 |[],s=>.inl rfl
 |x::r,s=>by
  rw[svcGo]
  split
  ·exact .two (err_comb ..)
  ·split
   ·exact .two (err_comb ..)
   ·exact err_svcGo r _
theorem err_svc(i:Nt)(nm:ByteArray):ErrL (svcP i nm).2:=by
 unfold svcP
 split
 ·exact .inl rfl
 ·split
  ·exact .three (svcF_err ..)
  ·exact err_svcGo _ _
theorem err_grp(t:Tp)(i:Nt)(nm:ByteArray):ErrL (grpP t i nm).2:=.three (grpP_err t i nm)
theorem err_stm(t:Tp)(i:Nt)(x:Sm):ErrL (stmP t i x).2:=by
 unfold stmP
 refine err_bind (err_grp ..) (err_bind (err_grp ..) (err_bind (err_svc ..) (err_bind ?_ (err_bind ?_ (err_bind (.two (err_make _)) ?_)))))
 ·split
  ·exact err_grp ..
  ·exact .inl rfl
 ·split
  ·exact err_grp ..
  ·exact .inl rfl
 ·split
  ·exact .two (err_comb ..)
  ·exact err_bind (.two (err_make _)) (.two (err_comb ..))
theorem err_fst{α:Type}{f:α->Int}(h:∀x,ErrL (f x)):∀l:List α,ErrL (fstE f l)
 |[]=>.inl rfl
 |x::l=>by
  unfold fstE
  split
  ·exact h x
  ·exact err_fst h l
theorem err_chk(t:Tp)(i:Nt):ErrL (chkP t i):=by
 have hn:∀s,ErrL (namE t i s):=fun s=>by
  unfold namE
  split
  ·exact .inl rfl
  ·exact .inr (.inr (.inl rfl))
 rw[chkP_eq]
 split
 ·exact err_fst (fun d=>err_grp ..) _
 split
 ·exact err_fst (fun d=>err_svc ..) _
 split
 ·exact err_fst (fun s=>by split;exact err_stm ..;exact hn s) _
 split
 ·exact err_fst (fun p=>by split;exact .inr (.inr (.inl rfl));exact .inl rfl) _
 ·exact err_fst (fun h=>by split;exact .inr (.inr (.inl rfl));exact err_grp ..) _
theorem err_real(t:Tp):(realP t).2=0\/(realP t).2=3:=by
 unfold realP
 split
 ·exact err_make _
 ·exact err_comb ..
theorem err_putG(c:ByteArray)(s:List Bx):∀l:List Insp,(putG l c s).2=0\/(putG l c s).2=3
 |[]=>.inl rfl
 |y::r=>by
  unfold putG
  split
  ·exact err_putG c s r
  ·split
   ·exact err_comb ..
   ·exact .inl rfl
theorem err_put(l:List Insp)(c:ByteArray)(s:List Bx):(putP l c s).2=0\/(putP l c s).2=3:=by
 unfold putP
 split
 ·exact .inl rfl
 ·exact err_putG c s l
theorem err_atGo(t:Tp)(i:Nt):∀(l:List Nat) (rest:List Bx) (p:Pol),((atGo t i l rest p).2=0\/(atGo t i l rest p).2=3)/\((atGo t i l rest p).2≠0->(atGo t i l rest p).1=zPol)
 |[],rest,p=>⟨.inl rfl,fun h=>absurd rfl h⟩
 |n::l,rest,p=>by
  rw[atGo]
  cases i.sts[n]? with
  |none=>exact⟨.inl rfl,fun h=>absurd rfl h⟩
  |some x=>
   simp only
   split
   ·exact⟨err_comb ..,fun _=>rfl⟩
   split
   ·exact⟨err_comb ..,fun _=>rfl⟩
   split
   ·exact err_atGo t i l _ _
   split
   ·exact⟨err_comb ..,fun _=>rfl⟩
   split
   ·exact⟨err_put ..,fun _=>rfl⟩
   ·exact err_atGo t i l _ _
theorem err_at(t:Tp)(i:Nt)(m:Int):((atP t i m).2=0\/(atP t i m).2=3)/\((atP t i m).2≠0->(atP t i m).1=zPol):=by
 unfold atP
 split
 ·exact⟨err_real t,fun _=>rfl⟩
 ·exact err_atGo ..
theorem err_atV{t:Tp}{i:Nt}{m:Int}(hc:compB t=true)(hn:ntB i=true)(h0:0<=m)(h1:m<10080):ErrL (atV t i m).2/\((atV t i m).2≠0->(atV t i m).1=zPol):=by
 unfold atV
 split
 ·rename_i h
  have e:preV t i m=chkP t i:=by rw[preV,if_pos ⟨hc,hn⟩,if_pos ⟨h0,h1⟩]
  rw[e]
  exact⟨err_chk t i,fun _=>rfl⟩
 ·exact⟨.two (err_at t i m).1,(err_at t i m).2⟩
theorem atV_ok{t:Tp}{i:Nt}{m:Int}(he:(atV t i m).2=0):preV t i m=0/\atV t i m=atP t i m/\(atP t i m).2=0:=by
 unfold atV at he
 by_cases h:preV t i m=0
 ·rw[if_neg zo]at he
  exact⟨h,by rw[atV,if_neg zo],he⟩
 ·rw[if_pos h]at he;exact absurd he h
theorem atGo_few(t:Tp)(i:Nt):∀(l:List Nat) (rest:List Bx) (p:Pol),(atGo t i l rest p).1.insp.length<=p.insp.length+l.length
 |[],rest,p=>Nat.le_refl _
 |n::l,rest,p=>by
  rw[atGo]
  cases i.sts[n]? with
  |none=>exact Nat.le_add_right _ _
  |some x=>
   simp only
   split
   ·exact Nat.zero_le _
   split
   ·exact Nat.zero_le _
   split
   ·have:=atGo_few t i l (combP woB rest (stmP t i x).1).1 p
    rw[List.length_cons];omega
   split
   ·exact Nat.zero_le _
   split
   ·exact Nat.zero_le _
   ·refine Nat.le_trans (atGo_few t i l _ _) ?_
    have:=putP_len x.cls (combP anB rest (stmP t i x).1).1 p.insp
    rw[List.length_cons]
    simp only
    omega
theorem atP_few{t:Tp}{i:Nt}{m:Int}(hn:ntB i=true):(atP t i m).1.insp.length<=i.sts.length:=by
 unfold atP
 split
 ·exact Nat.zero_le _
 ·have h1:=atGo_few t i (ordP i m) (realP t).1 zPol
  have h2:=ordP_len (i:=i) (m:=m) (fun x hx=>by
   have:=(ntB_iff.1 hn).t x hx
   unfold smB at this
   simp only[Bool.and_eq_true,decide_eq_true_eq]at this
   exact this.2.2.2)
  have h3:zPol.insp.length=0:=rfl
  omega
def segM(i:Nt)(v:Int):Prop:=v=0\/∃w,w∈i.wins/\∃r,r∈canO (has w.act)/\(v=r.lo\/v=r.hi+1)/\v<10080
structure SegL (i:Nt) (S:List Int):Prop where
 od:S.Pairwise (· < ·)
 mem:∀v,v∈S↔segM i v
def IsFst(S:List Int)(m f:Int):Prop:=f∈S/\f<=m/\∀s,s∈S->s<=m->s<=f
theorem seg_pos{i:Nt}{S:List Int}(h:SegL i S):∀v,v∈S->0<=v:=fun v hv=>by
 rcases(h.mem v).1 hv with rfl|⟨w,_,r,_,h1|h1,_⟩
 ·exact Int.le_refl _
 ·have:=r.l0;omega
 ·have:=r.h0;omega
theorem seg_zero{i:Nt}{S:List Int}(h:SegL i S):S[0]? =some 0:=by
 have h0:(0:Int)∈S:=(h.mem 0).2 (.inl rfl)
 rcases S with _|⟨a,l⟩
 ·cases h0
 ·have ha:=seg_pos h a zx
  rcases List.mem_cons.1 h0 with h1|h1
  ·rw[<-h1];rfl
  ·have:=(List.pairwise_cons.1 h.od).1 0 h1
   omega
theorem seg_has{i:Nt}(hn:ntB i=true){S:List Int}(h:SegL i S){m f:Int}(hm:m<10080)(hf:IsFst S m f){w:Wn}(hw:w∈i.wins):has w.act m=has w.act f:=by
 obtain⟨k,hk⟩:=List.mem_iff_getElem?.1 hw
 have hc:canO (has w.act)=w.act:=canO_eq ((ntB_iff.1 hn).w k w hk).act.can fun v=>rfl
 obtain⟨h1,h2,h3⟩:=hf
 rw[Bool.eq_iff_iff,has_iff,has_iff]
 constructor
 ·rintro⟨r,hr,a,b⟩
  have:=h3 r.lo ((h.mem r.lo).2 (.inr ⟨w,hw,r,by rw[hc];exact hr,.inl rfl,by omega⟩)) a
  exact⟨r,hr,this,by omega⟩
 ·rintro⟨r,hr,a,b⟩
  refine⟨r,hr,by omega,?_⟩
  rcases Int.lt_or_le r.hi m with hlt|hge
  ·have:=h3 (r.hi+1) ((h.mem _).2 (.inr ⟨w,hw,r,by rw[hc];exact hr,.inr rfl,by omega⟩)) zo
   omega
  ·exact hge
theorem seg_act{i:Nt}(hn:ntB i=true){S:List Int}(h:SegL i S){m f:Int}(hm:m<10080)(hf:IsFst S m f)(x:Sm):actB i x m=actB i x f:=by
 have f0:=seg_pos h f hf.1
 have fm:=hf.2.1
 unfold actB
 congr 2
 cases hx:i.wins[(wnIx i.wins x.dur).toNat]? with
 |none=>simp[actW,has]
 |some w=>
  simp only[Option.map_some,Option.getD_some,actW]
  rw[seg_has hn h hm hf (List.mem_of_getElem? hx),decide_eq_true (show 0<=m by omega),decide_eq_true f0,decide_eq_true (show m<=4294967295 by omega),decide_eq_true (show f<=4294967295 by omega)]
theorem seg_ord{i:Nt}(hn:ntB i=true){S:List Int}(h:SegL i S){m f:Int}(hm:m<10080)(hf:IsFst S m f):ordP i m=ordP i f:=by
 have:∀n,actN i m n=actN i f n:=fun n=>by
  unfold actN
  cases i.sts[n]? with
  |none=>rfl
  |some x=>exact seg_act hn h hm hf x
 unfold ordP ordF priAt
 simp only[this]
theorem seg_at(t:Tp){i:Nt}(hn:ntB i=true){S:List Int}(h:SegL i S){m f:Int}(hm:m<10080)(hf:IsFst S m f):atV t i m=atV t i f:=by
 have f0:=seg_pos h f hf.1
 have fm:=hf.2.1
 have hp:preV t i m=preV t i f:=by
  unfold preV
  rw[if_pos (show 0<=m/\m<10080 from⟨by omega,hm⟩),if_pos (show 0<=f/\f<10080 from⟨f0,by omega⟩)]
 unfold atV atP
 rw[hp,seg_ord hn h hm hf]
theorem win_len{l:List Rg}(h:WinOk l):l.length<=16:=by
 have hsub:=nodup_sub (los_nodup h.can) (m:=(List.range 7).flatMap fun d=>(dayW l d).map fun r=>r.lo) fun x hx=>by
  obtain⟨r,hr,rfl⟩:=List.mem_map.1 hx
  have h1:=h.can.1 r hr
  have h2:=h.top r hr
  have h0:=r.l0
  obtain⟨c1,c2⟩:=canon_start h.can hr
  have hd:(r.lo/1440).toNat<7:=by omega
  have hsp:=(canO_spec (inter_exists l hd)).2
  have e1:has (dayW l (r.lo/1440).toNat) r.lo=true:=by
   rw[dayW,hsp,c1,decide_eq_true zo,decide_eq_true zo];rfl
  have e2:has (dayW l (r.lo/1440).toNat) (r.lo-1)=false:=by
   rw[dayW,hsp,c2];rfl
  obtain⟨s,hs,s1,s2⟩:=has_iff.1 e1
  have e3:s.lo=r.lo:=by
   rcases Int.lt_or_le s.lo r.lo with hlt|hge
   ·have:=has_iff.2 ⟨s,hs,(show s.lo<=r.lo-1 by omega),by omega⟩
    rw[e2]at this;cases this
   ·omega
  exact List.mem_flatMap.2 ⟨_,List.mem_range.2 hd,List.mem_map.2 ⟨s,hs,e3⟩⟩
 have hl:((List.range 7).flatMap fun d=>(dayW l d).map fun r=>r.lo).length=cntW l 7:=by
  rw[List.length_flatMap]
  simp only[List.length_map]
  rfl
 rw[hl,List.length_map]at hsub
 have:=h.few
 omega
def segX(r:Rg):List Int:=(if r.lo<10080 then [r.lo]else [])++(if r.hi+1<10080 then [r.hi+1]else [])
def segR(c:List Rg):List Int:=c.flatMap segX
noncomputable def segW(L:List (List Rg)):List Int:=0::L.flatMap fun w=>segR (canO (has w))
theorem segX_len(r:Rg):(segX r).length<=2:=by
 unfold segX
 split<;>split<;>simp
theorem segR_len:∀c:List Rg,(segR c).length<=2*c.length
 |[]=>by simp[segR]
 |r::c=>by
  have h1:=segX_len r
  have h2:=segR_len c
  unfold segR at h2⊢
  rw[List.flatMap_cons,List.length_append,List.length_cons]
  omega
theorem segR_succ{c:List Rg}{j:Nat}{r:Rg}(h:c[j]? =some r):segR (c.take (j+1))=segR (c.take j)++segX r:=by
 rw[segR,List.take_add_one,h,List.flatMap_append,<-segR]
 simp
theorem segX_mem{r:Rg}{v:Int}:v∈segX r↔(v=r.lo\/v=r.hi+1)/\v<10080:=by
 unfold segX
 rw[List.mem_append]
 constructor
 ·rintro(h|h)
  ·split at h
   ·rw[List.mem_singleton]at h;subst h;exact⟨.inl rfl,by assumption⟩
   ·cases h
  ·split at h
   ·rw[List.mem_singleton]at h;subst h;exact⟨.inr rfl,by assumption⟩
   ·cases h
 ·rintro⟨rfl|rfl,h⟩
  ·left;rw[if_pos h];simp
  ·right;rw[if_pos h];simp
theorem segW_succ{L:List (List Rg)}{k:Nat}{w:List Rg}(h:L[k]? =some w):segW (L.take (k+1))=segW (L.take k)++segR (canO (has w)):=by
 rw[segW,List.take_add_one,h,List.flatMap_append,segW]
 simp
theorem segW_len(L:List (List Rg))(hw:∀w,w∈L->w.length<=800):∀k,k<=L.length->(segW (L.take k)).length<=1+8000*k
 |0,_=>by simp[segW]
 |k+1,hk=>by
  obtain⟨w,h⟩:∃w,L[k]? =some w:=⟨_,List.getElem?_eq_getElem zo⟩
  have h1:=segW_len L hw k zo
  have h2:=segR_len (canO (has w))
  have h3:=canO_len w
  have h4:=hw w (List.mem_of_getElem? h)
  rw[segW_succ h,List.length_append]
  omega
theorem coCSeg(L:List (List Rg))(hL:L.length<=100000)(hw:∀w,w∈L->w.length<=800){K:KT}(hK:∀S:List Int,S.Pairwise (· < ·)->(∀v,v∈S↔v∈segW L)->S.length<=1+8000*L.length->K (.lst (S.map encI)) []):
  ACall Tryz.prog 103 [.lst (L.map encRs)] [] K:=by
 refine ofoCSeg rfl rfl ?_
 (repeat' ((conv=>whnf);first|refine zG ?_|apply zA|(apply zI;intro h)|exact zT));(all_goals conv=>whnf)
 refine Lp.intro Nat (fun k=>⟨1,[(0,.arr 1 ((segW (L.take k)).map encZJ))],[(3,.os 0 1 0 (segW (L.take k)).length),(11,.lst (L.map encRs)),(12,.v (.int .i64 ((L.map encRs).length:Nat))),(13,.v (.int .i64 k))]⟩) (fun k=>k<=L.length) (fun k=>L.length-k) 0 (Nat.zero_le _) ?_ ?_
 ·rw[List.take_zero,show segW []=[0]from rfl]
  (exact leA)
 intro k hk
 have hlen:=segW_len L hw k hk
 rcases Nat.lt_or_ge k L.length with hkl|hkl
 ·obtain⟨w,hx⟩:=gex hkl
  have hwl:=hw w (List.mem_of_getElem? hx)
  have hs:=segW_succ hx
  have hun:∀{K:KT},K (encRs (canO (has w))) []->ACall Tryz.prog 186 [encRs w,.lst []] [] K:=fun h=>cwUn0 w zo fun c h1 h2 _=>by rw[<-canO_eq h1 h2];exact h
  have hcl:=canO_len w
  generalize segW (L.take k)=A at*
  generalize canO (has w)=c at*
  (repeat' ((conv=>whnf);first|(with_reducible first|refine in_map hkl ?_|refine ix_map hx ?_|refine hun ?_)|refine zG ?_|apply zA|(apply zI;intro h)|exact zT));(all_goals conv=>whnf)
  refine Lp.intro Nat (fun j=>⟨1,[(0,.arr 1 ((A++segR (c.take j)).map encZJ))],[(3,.os 0 1 0 (A++segR (c.take j)).length),(11,.lst (L.map encRs)),(12,.v (.int .i64 ((L.map encRs).length:Nat))),(13,.v (.int .i64 k)),(18,encRs c),(19,.v (.int .i64 ((c.map encR).length:Nat))),(20,.v (.int .i64 j))]⟩) (fun j=>j<=c.length) (fun j=>c.length-j) 0 (Nat.zero_le _) ?_ ?_
  ·rw[List.take_zero,show segR []=[]from rfl,List.append_nil]
   (exact leA)
  intro j hj
  rcases Nat.lt_or_ge j c.length with hjl|hjl
  ·obtain⟨r,hr⟩:=gex hjl
   have hsj:=segR_succ hr
   have hjn:=segR_len (c.take j)
   rw[List.length_take]at hjn
   have hBl:(A++segR (c.take j)).length<=1000000000:=by rw[List.length_append];omega
   have hB2:(A++segR (c.take (j+1)))=(A++segR (c.take j))++segX r:=by rw[hsj,List.append_assoc]
   generalize (A++segR (c.take j))=B at*
   have l0:=r.l0;have l1:=r.l1;have h0:=r.h0;have h1:=r.h1
   (repeat' ((conv=>whnf);first|(with_reducible first|refine in_map hjl ?_|refine ix_map hr ?_|refine Lp.times 3 ?_)|(refine in_c zd ?_)|refine zG ?_|apply zA|(apply zI;intro h)|exact zT));(all_goals conv=>whnf)
   all_goals first
    |(refine⟨j+1,hjl,by omega,?_⟩
      rw[hB2]
      unfold segX
      first
       |rw[if_pos zo,if_pos zo]
       |rw[if_pos zo,if_neg zo]
       |rw[if_neg zo,if_pos zo]
       |rw[if_neg zo,if_neg zo]
      simp only[List.append_nil,List.nil_append,<-List.append_assoc,List.map_append,List.map_cons,List.map_nil,List.length_append,List.length_cons,List.length_nil]
      rw[Int.natCast_add j,Int.natCast_one]
      (exact leA)
      done)
  ·rw[List.take_of_length_le hjl]
   (repeat' ((conv=>whnf);first|refine zG ?_|apply zA|(apply zI;intro h)|exact zT));(all_goals conv=>whnf)
   refine⟨k+1,hkl,by omega,?_⟩
   rw[hs,Int.natCast_add k,Int.natCast_one]
   (exact leA)
 ·rw[List.take_of_length_le hkl]
  have hke:k=L.length:=by omega
  subst hke
  rw[List.take_length]at hlen
  have hl:(segW L).length<1000000000000:=by omega
  (repeat' ((conv=>whnf);first|(with_reducible refine csSortJ _ hl fun l' hp hs=>?_)|refine zG ?_|apply zA|(apply zI;intro h)|exact zT));(all_goals conv=>whnf)
  have hll:(segW L).length=l'.length:=hp.length_eq.symm
  rw[hll]at hl⊢
  (repeat' ((conv=>whnf);first|(with_reducible refine csCompJ l' hl fun zs=>?_)|refine zG ?_|apply zA|(apply zI;intro h)|exact zT));(all_goals conv=>whnf)
  refine Sl.intro (ys:=(comp l').map encZJ) zx (by rw[List.drop_zero,List.take_left' zx]) ?_
  refine hK (comp l') (comp_lt hs) (fun v=>by rw[comp_mem,hp.mem_iff]) ?_
  have:=comp_len_le l' l'.length
  rw[List.take_length]at this
  omega
theorem segW_iff{i:Nt}{v:Int}:v∈segW (i.wins.map Wn.act)↔segM i v:=by
 unfold segW segM
 rw[List.mem_cons,List.mem_flatMap]
 refine or_congr_right ?_
 constructor
 ·rintro⟨w,hw,hv⟩
  obtain⟨x,hx,rfl⟩:=List.mem_map.1 hw
  obtain⟨r,hr,h1⟩:=List.mem_flatMap.1 hv
  obtain⟨h2,h3⟩:=segX_mem.1 h1
  exact⟨x,hx,r,hr,h2,h3⟩
 ·rintro⟨x,hx,r,hr,h2,h3⟩
  exact⟨x.act,List.mem_map.2 ⟨x,hx,rfl⟩,List.mem_flatMap.2 ⟨r,hr,segX_mem.2 ⟨h2,h3⟩⟩⟩
theorem coSeg(i:Nt)(hb:Bnd i)(hnt:ntB i=true){K:KT}(hK:∀S:List Int,SegL i S->S.length<=1000000000->K (.lst (S.map encI)) []):ACall Tryz.prog 39 [encNt i] [] K:=by
 have bw:=hb.w
 have hcs:∀{K:KT},(∀S:List Int,SegL i S->S.length<=1000000000->K (.lst (S.map encI)) [])->ACall Tryz.prog 103 [.lst (i.wins.map fun w=>encRs w.act)] [] K:=fun {K} h=>by
  have:=coCSeg (i.wins.map Wn.act) (by rw[List.length_map];omega) (fun w hw=>by
   obtain⟨x,hx,rfl⟩:=List.mem_map.1 hw
   obtain⟨n,hn⟩:=List.mem_iff_getElem?.1 hx
   have:=win_len ((ntB_iff.1 hnt).w n x hn).act
   omega) (K:=K) fun S h1 h2 h3=>h S ⟨h1,fun v=>by rw[h2,segW_iff]⟩ (by rw[List.length_map]at h3;omega)
  rw[List.map_map]at this
  exact this
 refine ofoSeg rfl rfl ?_
 (repeat' ((conv=>whnf);first|(with_reducible refine ckNt i hb ?_)|refine zG ?_|apply zA|(apply zI;intro h)|exact zT));(all_goals conv=>whnf)
 all_goals first
  |(exfalso;simp_all;done)
  |skip
 refine Lp.intro Nat (fun k=>⟨2,[(1,.arr 1 ((i.wins.take k).map fun w=>encRs w.act))],[(3,.os 1 1 0 (i.wins.take k).length),(10,.lst (i.wins.map encWn)),(11,.v (.int .i64 ((i.wins.map encWn).length:Nat))),(12,.v (.int .i64 k))]⟩) (fun k=>k<=i.wins.length) (fun k=>i.wins.length-k) 0 (Nat.zero_le _) ?_ ?_
 ·(exact leA)
 intro k hk
 rcases Nat.lt_or_ge k i.wins.length with hkl|hkl
 ·obtain⟨x,hx⟩:=gex hkl
  have ht:i.wins.take (k+1)=i.wins.take k++[x]:=by rw[List.take_add_one,hx];rfl
  (repeat' ((conv=>whnf);first|(with_reducible first|refine in_map hkl ?_|refine ix_map hx ?_)|refine zG ?_|apply zA|(apply zI;intro h)|exact zT));(all_goals conv=>whnf)
  refine⟨k+1,hkl,by omega,?_⟩
  rw[ht,List.map_append,List.length_append,Int.natCast_add k,Int.natCast_one]
  (exact leA)
 ·rw[List.take_of_length_le hkl]
  (repeat' ((conv=>whnf);first|(with_reducible first|refine sl_full zx ?_|refine hcs fun S h1 h2=>?_)|refine zG ?_|apply zA|(apply zI;intro h)|exact zT));(all_goals conv=>whnf)
  exact hK S h1 h2
theorem enMin(raw:List Int)(pos:Nat)(hp:pos<=raw.length)(hr:raw.length<=9223372036854775807){K:KT}
  (hK:∀(m:Int) (pos':Nat),0<=m->m<10080->pos'<=raw.length->K (.v (.int .i64 m)) [tapeO raw pos']):ACall Tryz.prog 45 [.op 0 0] [tapeO raw pos] K:=by
 refine ofnMin rfl rfl ?_
 (repeat' ((conv=>whnf);first|(with_reducible first|refine nNext raw _ _ zo zw hr fun m1 p1 hm1 hp1=>?_|refine in_nat zo ?_|refine ix_intsB [0,479,480,481,1019,1020,1439,700] 8 0 1439 rfl rfl zd zo fun c h0 h1=>?_)|refine zG ?_|apply zA|(apply zI;intro h)|exact zT));(all_goals conv=>whnf)
 all_goals exact hK _ _ zo zo zw
theorem enIntN(ns:Nat)(hns:ns<=4)(raw:List Int)(pos:Nat)(t:Tp)(hg:GTop t)(hp:pos<=raw.length)(hr:raw.length<=9223372036854775807){K:KT}
  (hK:∀(i:Nt) (pos':Nat),ENt i->pos'<=raw.length->K (encNt i) [tapeO raw pos']):
  ACall Tryz.prog 44 [.op 0 0,encT t,.v (.int .i64 ns)] [tapeO raw pos] K:=enInt raw pos t hg.e5 (by have:=hg.d6;omega) (tpn_top hg) ns hns hp hr hK
theorem coNet(ns:Nat)(hns:ns<=4)(raw:List Int)(pos:Nat)(hp:pos<=raw.length)(hr:raw.length<=9223372036854775807){K:KT}
  (hK:∀(t:Tp) (i:Nt) (m:Int) (pos':Nat),GTop t->t.devs.length<=3->ENt i->0<=m->m<10080->pos'<=raw.length->K (.tup [encT t,encNt i,.v (.int .i64 m)]) [tapeO raw pos']):
  ACall Tryz.prog 11 [.op 0 0,.v (.int .i64 3),.v (.int .i64 ns)] [tapeO raw pos] K:=by
 refine ofoNet rfl rfl ?_
 (repeat' ((conv=>whnf);first|(with_reducible first|refine enTop3f raw _ zw hr fun t p1 ht hd hp1=>?_|refine enIntN ns hns raw _ _ zw zw hr fun i p2 hi hp2=>?_|refine enMin raw _ zw hr fun m p3 m0 m1 hp3=>?_)|refine zG ?_|apply zA|(apply zI;intro h)|exact zT));(all_goals conv=>whnf)
 exact hK t i m p3 ht hd hi m0 m1 hp3
noncomputable abbrev celA(fl:Bool)(a:List Bx):AV:=match fl with
 |true=>.nils
 |false=>encXs a
theorem cxUn0(b:List Bx)(hb:b.length<1000000000){K:KT}(hK:K (.tup [encXs (combP orB [] b).1,.v (.int .i64 (combP orB [] b).2)]) []):ACall Tryz.prog 114 [.lst [],encXs b] [] K:=cxUn [] b zx hb hK
theorem coTry(fl:Bool)(g:ByteArray->Option (List Bx))(rest allow:List Bx)(x:Sm)(S:List Bx)(h0:fl=true->allow=[])(hr:setB rest=true)(ha:setB allow=true)(hS:setB S=true)(hg:∀c s,g c=some s->setB s=true){K:KT}
  (hK:∀fl':Bool,(fl'=true->(tryP g rest allow x S).2.2.1=[])->K (.v (.int .i64 (tryP g rest allow x S).1)) [.box [encXs (tryP g rest allow x S).2.1,celA fl' (tryP g rest allow x S).2.2.1,.mp 1],.map (mapS (tryP g rest allow x S).2.2.2)]):
  ACall Tryz.prog 49 [.op 0 0,encSm x,encXs S] [.box [encXs rest,celA fl allow,.mp 1],.map (mapS g)] K:=by
 have lr:=setBlen hr
 have la:=setBlen ha
 have lS:=setBlen hS
 have lA:(combP anB rest S).1.length<1000000000:=setBlen (setB_combP ..)
 unfold tryP at hK
 refine ofoTry rfl rfl ?_
 cases fl with
 |true=>
  obtain rfl:=h0 rfl
  cases hgc:g x.cls with
  |none=>
   (repeat' ((conv=>whnf);first|(with_reducible first|refine cxInt rest S lr lS ?_|refine cxSub rest S lr lS ?_|refine cxUn0 _ lA ?_|refine mg_none (by simp only[mapS,hgc,Option.map_none]) ?_|refine Mu.intro (mapS_upd g x.cls _) ?_)|refine zG ?_|apply zA|(apply zI;intro h)|exact zT));(all_goals conv=>whnf)
   all_goals first
    |(rw[if_pos zw]at hK;exact hK true (fun _=>rfl))
    |(rw[if_neg (by simpa using(by with_reducible assumption:(combP anB rest S).2=0)),if_pos zw]at hK;exact hK true (fun _=>rfl))
    |(rw[if_neg (by simpa using(by with_reducible assumption:(combP anB rest S).2=0)),if_neg (by simpa using(by with_reducible assumption:(combP woB rest S).2=0)),if_pos zw]at hK
      have hz:(combP woB rest S).2=0:=by with_reducible assumption
      rw[hz]
      exact hK true (fun _=>rfl))
    |(rw[if_neg (by simpa using(by with_reducible assumption:(combP anB rest S).2=0)),if_neg (by simpa using(by with_reducible assumption:(combP woB rest S).2=0)),if_neg (by simp_all)]at hK
      first
       |(rw[if_pos zw]at hK;exact hK false (fun h=>by cases h))
       |(have hz:(combP orB [] (combP anB rest S).1).2=0:=by with_reducible assumption
         rw[if_neg (by simpa using hz)]at hK
         first
          |(rw[if_pos (by unfold sEq;with_reducible assumption)]at hK
            rw[hz]
            exact hK false (fun h=>by cases h))
          |(rw[if_neg (by unfold sEq;simp_all)]at hK
            simp only[hgc,Option.getD_none,Option.getD_some]at hK
            exact hK false (fun h=>by cases h))))
  |some u=>
   have lu:=setBlen (hg _ _ hgc)
   (repeat' ((conv=>whnf);first|(with_reducible first|refine cxInt rest S lr lS ?_|refine cxSub rest S lr lS ?_|refine cxUn0 _ lA ?_|refine cxUn u _ lu lA ?_|refine mg_some (x:=encXs u) (by simp only[mapS,hgc,Option.map_some]) ?_|refine Mu.intro (mapS_upd g x.cls _) ?_)|refine zG ?_|apply zA|(apply zI;intro h)|exact zT));(all_goals conv=>whnf)
   all_goals first
    |(rw[if_pos zw]at hK;exact hK true (fun _=>rfl))
    |(rw[if_neg (by simpa using(by with_reducible assumption:(combP anB rest S).2=0)),if_pos zw]at hK;exact hK true (fun _=>rfl))
    |(rw[if_neg (by simpa using(by with_reducible assumption:(combP anB rest S).2=0)),if_neg (by simpa using(by with_reducible assumption:(combP woB rest S).2=0)),if_pos zw]at hK
      have hz:(combP woB rest S).2=0:=by with_reducible assumption
      rw[hz]
      exact hK true (fun _=>rfl))
    |(rw[if_neg (by simpa using(by with_reducible assumption:(combP anB rest S).2=0)),if_neg (by simpa using(by with_reducible assumption:(combP woB rest S).2=0)),if_neg (by simp_all)]at hK
      first
       |(rw[if_pos zw]at hK;exact hK false (fun h=>by cases h))
       |(have hz:(combP orB [] (combP anB rest S).1).2=0:=by with_reducible assumption
         rw[if_neg (by simpa using hz)]at hK
         first
          |(rw[if_pos (by unfold sEq;with_reducible assumption)]at hK
            rw[hz]
            exact hK false (fun h=>by cases h))
          |(rw[if_neg (by unfold sEq;simp_all)]at hK
            simp only[hgc,Option.getD_none,Option.getD_some]at hK
            exact hK false (fun h=>by cases h))))
 |false=>
  cases hgc:g x.cls with
  |none=>
   (repeat' ((conv=>whnf);first|(with_reducible first|refine cxInt rest S lr lS ?_|refine cxSub rest S lr lS ?_|refine cxUn0 _ lA ?_|refine cxUn allow _ la lA ?_|refine mg_none (by simp only[mapS,hgc,Option.map_none]) ?_|refine Mu.intro (mapS_upd g x.cls _) ?_)|refine zG ?_|apply zA|(apply zI;intro h)|exact zT));(all_goals conv=>whnf)
   all_goals first
    |(rw[if_pos zw]at hK;exact hK false (fun h=>by cases h))
    |(rw[if_neg (by simpa using(by with_reducible assumption:(combP anB rest S).2=0)),if_pos zw]at hK;exact hK false (fun h=>by cases h))
    |(rw[if_neg (by simpa using(by with_reducible assumption:(combP anB rest S).2=0)),if_neg (by simpa using(by with_reducible assumption:(combP woB rest S).2=0)),if_pos zw]at hK
      have hz:(combP woB rest S).2=0:=by with_reducible assumption
      rw[hz]
      exact hK false (fun h=>by cases h))
    |(rw[if_neg (by simpa using(by with_reducible assumption:(combP anB rest S).2=0)),if_neg (by simpa using(by with_reducible assumption:(combP woB rest S).2=0)),if_neg (by simp_all)]at hK
      first
       |(rw[if_pos zw]at hK;exact hK false (fun h=>by cases h))
       |(have hz:(combP orB allow (combP anB rest S).1).2=0:=by with_reducible assumption
         rw[if_neg (by simpa using hz)]at hK
         first
          |(rw[if_pos (by unfold sEq;with_reducible assumption)]at hK
            rw[hz]
            exact hK false (fun h=>by cases h))
          |(rw[if_neg (by unfold sEq;simp_all)]at hK
            simp only[hgc,Option.getD_none,Option.getD_some]at hK
            exact hK false (fun h=>by cases h))))
  |some u=>
   have lu:=setBlen (hg _ _ hgc)
   (repeat' ((conv=>whnf);first|(with_reducible first|refine cxInt rest S lr lS ?_|refine cxSub rest S lr lS ?_|refine cxUn u _ lu lA ?_|refine cxUn allow _ la lA ?_|refine mg_some (x:=encXs u) (by simp only[mapS,hgc,Option.map_some]) ?_|refine Mu.intro (mapS_upd g x.cls _) ?_)|refine zG ?_|apply zA|(apply zI;intro h)|exact zT));(all_goals conv=>whnf)
   all_goals first
    |(rw[if_pos zw]at hK;exact hK false (fun h=>by cases h))
    |(rw[if_neg (by simpa using(by with_reducible assumption:(combP anB rest S).2=0)),if_pos zw]at hK;exact hK false (fun h=>by cases h))
    |(rw[if_neg (by simpa using(by with_reducible assumption:(combP anB rest S).2=0)),if_neg (by simpa using(by with_reducible assumption:(combP woB rest S).2=0)),if_pos zw]at hK
      have hz:(combP woB rest S).2=0:=by with_reducible assumption
      rw[hz]
      exact hK false (fun h=>by cases h))
    |(rw[if_neg (by simpa using(by with_reducible assumption:(combP anB rest S).2=0)),if_neg (by simpa using(by with_reducible assumption:(combP woB rest S).2=0)),if_neg (by simp_all)]at hK
      first
       |(rw[if_pos zw]at hK;exact hK false (fun h=>by cases h))
       |(have hz:(combP orB allow (combP anB rest S).1).2=0:=by with_reducible assumption
         rw[if_neg (by simpa using hz)]at hK
         first
          |(rw[if_pos (by unfold sEq;with_reducible assumption)]at hK
            rw[hz]
            exact hK false (fun h=>by cases h))
          |(rw[if_neg (by unfold sEq;simp_all)]at hK
            simp only[hgc,Option.getD_none,Option.getD_some]at hK
            exact hK false (fun h=>by cases h))))
theorem coNaNS(x:ByteArray){K:KT}(hK:K (.sb false) []):ACall Tryz.prog 117 [.v (.string x)] [] K:=by
 refine ofoNaNS rfl rfl ?_
 (repeat' ((conv=>whnf);first|refine zG ?_|apply zA|(apply zI;intro h)|exact zT));(all_goals conv=>whnf)
 have e:(!(x.toList==x.toList))=false:=by simp
 first
  |(unfold one?;rw[e];exact hK)
  |exact fin_f hK e
theorem coCmpS(x y:ByteArray){K:KT}(hK:K (.v (.int .i64 (cmpB x y))) []):ACall Tryz.prog 52 [.v (.string x),.v (.string y)] [] K:=by
 refine ofoCmpS rfl rfl ?_
 (repeat' ((conv=>whnf);first|(with_reducible refine coNaNS _ ?_)|refine zG ?_|apply zA|(apply zI;intro h)|exact zT));(all_goals conv=>whnf)
 all_goals
  unfold cmpB ltS at hK
  first
   |(rw[if_pos zw]at hK;exact hK)
   |(rename_i h0
     simp only[Bool.or_eq_false_iff]at h
     rw[if_neg (by rw[h0];decide),if_pos (bl_total _ _ h.1 h.2)]at hK
     exact hK)
   |(rename_i h0
     rw[h0,Bool.false_or]at h
     have e:x=y:=sEq_iff.1 h
     subst e
     rw[if_neg (by rw[h0];decide),if_neg (by rw[h0];decide)]at hK
     exact hK)
theorem mapS_nil:mapS (fun _=>none)=fun _=>none:=by
 funext v
 cases v<;>rfl
theorem coAt1(x y:Insp){K:KT}(hK:K (.v (.int .i64 (cmpB x.cls y.cls))) []):ACall Tryz.prog 51 [encIn x,encIn y] [] K:=by
 refine ofoAt1 rfl rfl ?_
 (repeat' ((conv=>whnf);first|(with_reducible refine coCmpS _ _ ?_)|refine zG ?_|apply zA|(apply zI;intro h)|exact zT));(all_goals conv=>whnf)
 exact hK
structure AtL (t:Tp) (i:Nt) (m:Int) (k:Nat) (fl:Bool) (rest:List Bx) (p:Pol) (g:ByteArray->Option (List Bx)):Prop where
 kn:k<=(ordP i m).length
 eq:atGo t i (ordP i m) (realP t).1 zPol=atGo t i ((ordP i m).drop k) rest p
 mp:MapR g p.insp
 rs:setB rest=true
 al:setB p.allow=true
 z:fl=true->p.allow=[]
 few:p.insp.length<=k
theorem coAt(t:Tp)(ht:t.edges.length<1000)(hd:t.devs.length<1000)(i:Nt)(hb:Bnd i)(hs:i.sts.length<=12)(m:Int){K:KT}(hK:K (.tup [encPol (atV t i m).1,.v (.int .i64 (atV t i m).2)]) []):
  ACall Tryz.prog 12 [encT t,encNt i,.v (.int .i64 m)] [] K:=by
 have hKz:∀e:Int,atV t i m=(zPol,e)->∃y,Weak (.tup [.agg [.nils,.nils],.v (.int .i64 e)]) y/\K y []:=fun e he=>by
  rw[he]at hK
  exact⟨_,Weak.tup2 (Weak.agg (ys:=[.lst [],.lst []]) ⟨Weak.nils,Weak.nils,trivial⟩) Weak.refl,hK⟩
 refine ACall.weak (ofoAt rfl rfl ?_)
 by_cases hp:preV t i m=0
 case neg=>
  have hz:atV t i m=(zPol,preV t i m):=by rw[atV,if_pos hp]
  (repeat' ((conv=>whnf);first|(with_reducible refine coChk t ht hd i hb m ?_)|refine zG ?_|apply zA|(apply zI;intro h)|exact zT));(all_goals conv=>whnf)
  all_goals first
   |exact hKz _ hz
   |exact absurd zw hp
 have hv:atV t i m=atP t i m:=by rw[atV,if_neg zo]
 have hpp:=hp
 unfold preV at hpp
 have hcn:compB t=true/\ntB i=true:=Decidable.byContradiction fun h=>by rw[if_neg h]at hpp;cases hpp
 rw[if_pos hcn]at hpp
 have hmm:0<=m/\m<10080:=Decidable.byContradiction fun h=>by rw[if_neg h]at hpp;cases hpp
 rw[if_pos hmm]at hpp
 have hord:ordV i m=ordP i m:=by rw[ordV,if_pos ⟨hcn.2,hmm⟩]
 have hchk:∀{K:KT},K (.v (.int .i64 0)) []->ACall Tryz.prog 46 [encT t,encNt i,.v (.int .i64 m)] [] K:=fun h=>coChk t ht hd i hb m (by rw[hp];exact h)
 have hoc:∀{K:KT},K (.lst ((ordP i m).map vN)) []->ACall Tryz.prog 37 [encNt i,.v (.int .i64 m)] [] K:=fun h=>coOrd i hb hs m (by rw[hord];exact h)
 unfold atP at hv
 (repeat' ((conv=>whnf);first|(with_reducible first|refine hchk ?_|refine coReal t ht hcn.1 ?_|refine hoc ?_)|refine zG ?_|apply zA|(apply zI;intro h)|exact zT));(all_goals conv=>whnf)
 all_goals first
  |(rw[if_pos zw]at hv;exact hKz _ hv)
  |skip
 rw[if_neg (by simpa using(by assumption:(realP t).2=0))]at hv
 have hrs:setB (realP t).1=true:=by
  unfold realP
  split
  ·exact setB_nil
  ·exact setB_combP ..
 refine Lp.intro (Nat×Bool×List Bx×Pol×(Value->Option AV)) (fun q=>⟨5,[(0,boxT t),(1,boxNt i),(2,.box [.nils,.nils]),(3,.box [encXs q.2.2.1,celA q.2.1 q.2.2.2.1.allow,.mp 4]),(4,.map q.2.2.2.2)],[(3,.op 0 0),(4,.op 1 0),(6,.op 2 0),(11,.op 3 0),(42,.lst ((ordP i m).map vN)),(43,.v (.int .i64 (((ordP i m).map vN).length:Nat))),(44,.v (.int .i64 q.1))]⟩)
  (fun q=>∃g,q.2.2.2.2=mapS g/\AtL t i m q.1 q.2.1 q.2.2.1 q.2.2.2.1 g) (fun q=>(ordP i m).length-q.1) (0,true,(realP t).1,zPol,fun _=>none) ⟨fun _=>none,mapS_nil.symm,Nat.zero_le _,by simp,mapR_nil,hrs,setB_nil,fun _=>rfl,Nat.le_refl _⟩ ?_ ?_
 ·(exact leA)
 rintro⟨k,fl,rest,p,F⟩ ⟨g,hF,hg⟩
 simp only at hF hg⊢
 subst hF
 have hkn:=hg.kn
 have hol:(ordP i m).length<=12:=Nat.le_trans (ordP_len (nt_pri hcn.2)) hs
 rcases Nat.lt_or_ge k (ordP i m).length with hkl|hkl
 ·obtain⟨n,hn⟩:∃n,(ordP i m)[k]? =some n:=⟨_,List.getElem?_eq_getElem hkl⟩
  have hnl:=ordF_lt (List.mem_of_getElem? hn)
  obtain⟨x,hx⟩:=gex hnl
  have hdr:(ordP i m).drop k=n::(ordP i m).drop (k+1):=by
   rw[List.getElem?_eq_getElem hkl]at hn
   rw[<-Option.some.inj hn,<-List.drop_eq_getElem_cons hkl]
  have hse:=chk_stm hpp x (List.mem_of_getElem? hx)
  have hsv:stmV t i (n:Int)=((stmP t i x).1,0):=by
   rw[stmV,if_pos hcn,if_neg zo,Int.toNat_natCast,hx]
   exact Prod.ext rfl hse
  have hst:∀{K:KT},K (.tup [encXs (stmP t i x).1,.v (.int .i64 0)]) []->ACall Tryz.prog 48 [encT t,encNt i,.v (.int .i64 n)] [] K:=fun h=>
   crStatement t zo i hb n (by rw[hsv];exact h)
  obtain⟨s1,s2⟩:=try_step (r:=(ordP i m).drop (k+1)) hx (rest:=rest) hg.mp
  rw[<-hdr,<-hg.eq]at s1 s2
  have htry:=fun {K} h=>@coTry fl g rest p.allow x (stmP t i x).1 hg.z hg.rs hg.al (stmP_set t i x) hg.mp.set K h
  generalize hq:tryP g rest p.allow x (stmP t i x).1=q at*
  obtain⟨e,rest',allow',g'⟩:=q
  simp only at s1 s2 htry
  have hnext:∀fl':Bool,(fl'=true->allow'=[])->e=0->∃l,AtL t i m (k+1) fl' rest' ⟨allow',l⟩ g':=by
   intro fl' hf he
   obtain⟨l,q1,q2,q3,q4,q5⟩:=s2 he hg.rs hg.al
   exact⟨l,hkl,q1,q3,q4,q5,hf,by have:=hg.few;simp only;omega⟩
  have hend:e≠0->atV t i m=(zPol,e):=fun he=>hv.trans (s1 he)
  clear s1 s2 hv
  cases fl
  all_goals
   (repeat' ((conv=>whnf);first|(with_reducible first|refine in_map hkl ?_|refine ix_map hn ?_|refine hst ?_|refine in_map hnl ?_|refine ix_map hx ?_|refine htry fun fl' hfl'=>?_)|refine zG ?_|apply zA|(apply zI;intro h)|exact zT));(all_goals conv=>whnf)
   have hnx:=hnext fl' hfl'
   clear htry hst hnext
   cases fl'
   all_goals
    (repeat' ((conv=>whnf);first|refine zG ?_|apply zA|(apply zI;intro h)|exact zT));(all_goals conv=>whnf)
    all_goals first
     |exact hKz _ (hend zw)
     |(obtain⟨l,hl⟩:=hnx zw
       refine⟨(k+1,_,rest',⟨allow',l⟩,mapS g'),⟨g',rfl,hl⟩,by simp only;omega,?_⟩
       simp only[Int.natCast_add,Int.natCast_one]
       (exact leA)
       done)
 ·have hke:(ordP i m).drop k=[]:=List.drop_eq_nil_of_le hkl
  have hpe:atV t i m=(p,0):=by rw[hv,hg.eq,hke,atGo]
  have hfew:p.insp.length<=12:=by
   have:=hg.few;omega
  have hmp:=hg.mp
  have hz:=hg.z
  clear hg hv
  cases fl with
  |false=>
   (repeat' ((conv=>whnf);first|(with_reducible refine Vm.Rg.mk fun τ L hn hm=>?_)|refine zG ?_|apply zA|(apply zI;intro h)|exact zT));(all_goals conv=>whnf)
   have hm':∀k,k∈L↔∃s,g k=some s:=fun k=>by
    rw[hm k]
    simp only[mapS,Option.map_eq_some_iff]
    exact⟨fun⟨_,s,h,_⟩=>⟨s,h⟩,fun⟨s,h⟩=>⟨_,s,h,rfl⟩⟩
   refine Lp.intro (List ByteArray×Option ByteArray×List Insp) (fun q=>⟨5,[(0,.box [.nils,.nils]),(1,.box [encXs p.allow,.os 2 2 0 q.2.2.length]),(2,.arr 2 (q.2.2.map encIn)),(3,.spc (.mt (mapS g) τ)),(4,.spc (.it (some 3) τ q.1 q.2.1))],[(6,.op 0 0),(17,.op 1 0),(75,.mp 3),(76,.op 4 0)]⟩)
    (fun q=>(q.2.2++outL g q.1).Perm p.insp) (fun q=>q.1.length) (L,none,[]) (by simpa using out_perm hmp hn hm') ?_ ?_
   ·(exact leA)
   rintro⟨L',last,C⟩ hC
   simp only at hC⊢
   have hCl:C.length<=12:=by
    have:=hC.length_eq
    rw[List.length_append]at this
    omega
   (conv=>whnf)
   refine Nx.mk rfl (fun hL0=>?_) (fun l1 k1 l2 y hL1 hy=>?_)
   ·subst hL0
    have hC:C.Perm p.insp:=by simpa[outL]using hC
    have hso:∀{K:KT},K (.tup []) [.arr 2 (p.insp.map encIn)]->ACall Tryz.prog 50 [.os 0 2 0 C.length,.fn (.func 51) [] []] [.arr 2 (C.map encIn)] K:=fun h=>
     coSortI _ (fun x y=>cmpB x.cls y.cls) C hCl (fun x y _ _ K h=>coAt1 x y h) (by rw[insp_sort hC hmp.od];exact h)
    rw[hpe]at hK
    have hfl:(p.insp.map encIn).length=C.length:=by rw[List.length_map,hC.length_eq]
    (repeat' ((conv=>whnf);first|(with_reducible first|refine hso ?_|refine sl_full hfl ?_)|refine zG ?_|apply zA|(apply zI;intro h)|exact zT));(all_goals conv=>whnf)
    exact⟨_,Weak.refl,hK⟩
   ·obtain⟨s,hs1,rfl⟩:∃s,g k1=some s/\y=encXs s:=by
     simp only[mapS,Option.map_eq_some_iff]at hy
     obtain⟨s,h1,h2⟩:=hy
     exact⟨s,h1,h2.symm⟩
    have hC1:(C++outL g (l1++k1::l2)).Perm p.insp:=by rw[<-hL1];exact hC
    have hmid:((C++outK g k1)++outL g (l1++l2)).Perm p.insp:=(outL_mid g C l1 k1 l2).symm.trans hC1
    have hok:outK g k1=if s=[]then []else [⟨k1,s⟩]:=by simp[outK,hs1]
    have hlt:(l1++l2).length<L'.length:=by rw[hL1];simp
    (repeat' ((conv=>whnf);first|(with_reducible refine En.mk rfl ⟨_,hy,?_⟩)|refine zG ?_|apply zA|(apply zI;intro h)|exact zT));(all_goals conv=>whnf)
    all_goals first
     |(have hs0:s≠[]:=fun e=>by
        rw[e,List.map_nil,List.length_nil]at h
        omega
       have hmid:=hmid
       rw[hok,if_neg hs0]at hmid
       refine⟨(l1++l2,some k1,C++[⟨k1,s⟩]),hmid,hlt,?_⟩
       simp only[List.map_append,List.length_append,List.map_cons,List.map_nil,List.length_cons,List.length_nil]
       (exact leA)
       done)
     |(have hs0:s=[]:=List.length_eq_zero_iff.1 (by simp only[List.length_map]at*;omega)
       have hmid:=hmid
       rw[hok,if_pos hs0,List.append_nil]at hmid
       refine⟨(l1++l2,some k1,C),hmid,hlt,?_⟩
       (exact leA)
       done)
  |true=>
   (repeat' ((conv=>whnf);first|(with_reducible refine Vm.Rg.mk fun τ L hn hm=>?_)|refine zG ?_|apply zA|(apply zI;intro h)|exact zT));(all_goals conv=>whnf)
   have hm':∀k,k∈L↔∃s,g k=some s:=fun k=>by
    rw[hm k]
    simp only[mapS,Option.map_eq_some_iff]
    exact⟨fun⟨_,s,h,_⟩=>⟨s,h⟩,fun⟨s,h⟩=>⟨_,s,h,rfl⟩⟩
   refine Lp.intro (List ByteArray×Option ByteArray×List Insp) (fun q=>⟨5,[(0,.box [.nils,.nils]),(1,.box [.nils,.os 2 2 0 q.2.2.length]),(2,.arr 2 (q.2.2.map encIn)),(3,.spc (.mt (mapS g) τ)),(4,.spc (.it (some 3) τ q.1 q.2.1))],[(6,.op 0 0),(17,.op 1 0),(75,.mp 3),(76,.op 4 0)]⟩)
    (fun q=>(q.2.2++outL g q.1).Perm p.insp) (fun q=>q.1.length) (L,none,[]) (by simpa using out_perm hmp hn hm') ?_ ?_
   ·(exact leA)
   rintro⟨L',last,C⟩ hC
   simp only at hC⊢
   have hCl:C.length<=12:=by
    have:=hC.length_eq
    rw[List.length_append]at this
    omega
   (conv=>whnf)
   refine Nx.mk rfl (fun hL0=>?_) (fun l1 k1 l2 y hL1 hy=>?_)
   ·subst hL0
    have hC:C.Perm p.insp:=by simpa[outL]using hC
    have hso:∀{K:KT},K (.tup []) [.arr 2 (p.insp.map encIn)]->ACall Tryz.prog 50 [.os 0 2 0 C.length,.fn (.func 51) [] []] [.arr 2 (C.map encIn)] K:=fun h=>
     coSortI _ (fun x y=>cmpB x.cls y.cls) C hCl (fun x y _ _ K h=>coAt1 x y h) (by rw[insp_sort hC hmp.od];exact h)
    rw[hpe]at hK
    have hfl:(p.insp.map encIn).length=C.length:=by rw[List.length_map,hC.length_eq]
    (repeat' ((conv=>whnf);first|(with_reducible first|refine hso ?_|refine sl_full hfl ?_)|refine zG ?_|apply zA|(apply zI;intro h)|exact zT));(all_goals conv=>whnf)
    refine⟨.tup [encPol p,.v (.int .i64 0)],Weak.tup2 (Weak.agg ⟨by rw[hz rfl];exact Weak.nils,Weak.refl,trivial⟩) Weak.refl,hK⟩
   ·obtain⟨s,hs1,rfl⟩:∃s,g k1=some s/\y=encXs s:=by
     simp only[mapS,Option.map_eq_some_iff]at hy
     obtain⟨s,h1,h2⟩:=hy
     exact⟨s,h1,h2.symm⟩
    have hC1:(C++outL g (l1++k1::l2)).Perm p.insp:=by rw[<-hL1];exact hC
    have hmid:((C++outK g k1)++outL g (l1++l2)).Perm p.insp:=(outL_mid g C l1 k1 l2).symm.trans hC1
    have hok:outK g k1=if s=[]then []else [⟨k1,s⟩]:=by simp[outK,hs1]
    have hlt:(l1++l2).length<L'.length:=by rw[hL1];simp
    (repeat' ((conv=>whnf);first|(with_reducible refine En.mk rfl ⟨_,hy,?_⟩)|refine zG ?_|apply zA|(apply zI;intro h)|exact zT));(all_goals conv=>whnf)
    all_goals first
     |(have hs0:s≠[]:=fun e=>by
        rw[e,List.map_nil,List.length_nil]at h
        omega
       have hmid:=hmid
       rw[hok,if_neg hs0]at hmid
       refine⟨(l1++l2,some k1,C++[⟨k1,s⟩]),hmid,hlt,?_⟩
       simp only[List.map_append,List.length_append,List.map_cons,List.map_nil,List.length_cons,List.length_nil]
       (exact leA)
       done)
     |(have hs0:s=[]:=List.length_eq_zero_iff.1 (by simp only[List.length_map]at*;omega)
       have hmid:=hmid
       rw[hok,if_pos hs0,List.append_nil]at hmid
       refine⟨(l1++l2,some k1,C),hmid,hlt,?_⟩
       (exact leA)
       done)
def eS:ByteArray:=⟨#[]⟩
def sshS:ByteArray:=⟨#[115,115,104]⟩
def qsnA:Sm:=⟨true,eS,eS,eS,false,eS,eS,eS,eS,0⟩
def qsnB:Sm:=⟨false,eS,eS,sshS,false,eS,eS,eS,eS,1⟩
def qsnN:Nt:=⟨[],[⟨sshS,[⟨4,eS,⟨0,0,by decide,by decide⟩,6,⟨22,22,by decide,by decide,by decide,by decide⟩⟩]⟩],[],[qsnA,qsnB],[],[]⟩
def qsnH:Hd:=⟨167772161,2886729729,6,1,22⟩
def qsnK:Hd:=⟨167772161,2886729729,6,1,23⟩
theorem qsnH_ok:qsnH.Ok:=⟨by decide,by decide,by decide,by decide,by decide,by decide,by decide,by decide,by decide,by decide⟩
theorem qsnK_ok:qsnK.Ok:=⟨by decide,by decide,by decide,by decide,by decide,by decide,by decide,by decide,by decide,by decide⟩
theorem eS_opt:optB eS=true:=by
 unfold optB
 rw[show sEq eS ⟨#[]⟩=true from sEq_iff.2 rfl];rfl
theorem ssh_opt:optB sshS=true:=by
 unfold optB
 rw[show nameB sshS=true from nameB_true (nameOk_data zd)];simp
theorem sEq_e:sEq eS ⟨#[]⟩=true:=sEq_iff.2 rfl
theorem qsnN_ok:NtOk qsnN:=by
 refine⟨dfsC_ok (by decide+kernel),dfsC_ok (by decide+kernel),by decide,by decide,by decide,by decide,fun k x h=>by simp[qsnN]at h,fun x hx=>?_,fun x h=>by simp[qsnN]at h,fun x h=>by simp[qsnN]at h⟩
 simp only[qsnN,List.mem_cons,List.not_mem_nil,or_false]at hx
 rcases hx with rfl|rfl
 ·simp only[smB,qsnA,eS_opt,sEq_e];decide
 ·simp only[smB,qsnB,eS_opt,ssh_opt,sEq_e];decide
theorem qsnN_bnd:Bnd qsnN:=by
 refine⟨by decide,by decide,by decide,by decide,by decide,by decide,fun x h=>by simp[qsnN]at h,fun x h=>?_,fun x h=>by simp[qsnN]at h,by decide,by decide⟩
 simp only[qsnN,List.mem_cons,List.not_mem_nil,or_false]at h
 subst h
 decide
theorem qsn_grp:grpP netR qsnN eS=([pf0.rg,pf4.rg],0):=by
 have e:grpE netR qsnN.grps eS=(0,[pf0.rg,pf4.rg]):=by rw[grpE,if_pos sEq_e];rfl
 have hc:Canon [pf0.rg,pf4.rg]:=⟨fun r hr=>by
  simp only[List.mem_cons,List.not_mem_nil,or_false]at hr
  rcases hr with rfl|rfl<;>decide,by
  refine List.pairwise_cons.2 ⟨fun s hs=>?_,List.pairwise_singleton ..⟩
  rw[List.mem_singleton.1 hs];decide⟩
 rw[grpP,e,if_pos rfl,canO_eq hc fun v=>rfl]
def qsnS(nm:ByteArray):List Bx×Int:=bindE (svcP qsnN nm) fun v=>bindE (makeP (btwB [pf0.rg,pf4.rg] [pf0.rg,pf4.rg])) fun b=>combP anB b v
theorem qsn_stm(x:Sm)(h1:x.frm=eS)(h2:x.to=eS)(h3:x.exc=false):stmP netR qsnN x=qsnS x.svc:=by
 unfold stmP qsnS
 rw[h1,h2,h3,qsn_grp]
 rw[bindE_ok rfl,bindE_ok rfl]
 simp only[Bool.false_eq_true,if_false]
 congr 1
 funext v
 rw[bindE_ok rfl,bindE_ok rfl]
 congr 1
 funext b
 simp
def qsnR:List Bx:=(realP netR).1
def qsnX:List Bx:=(qsnS sshS).1
def qsnY:List Bx:=(qsnS eS).1
def qsnW:List Bx:=(combP woB qsnR qsnX).1
def qsnP:List Bx:=(combP orB [] (combP anB qsnW qsnY).1).1
theorem qsn_real:(realP netR).2=0:=by decide+kernel
theorem qsn_x:(qsnS sshS).2=0:=by decide+kernel
theorem qsn_y:(qsnS eS).2=0:=by decide+kernel
theorem qsn_1:(combP anB qsnR qsnX).2=0:=by decide+kernel
theorem qsn_2:(combP woB qsnR qsnX).2=0:=by decide+kernel
theorem qsn_3:(combP anB qsnW qsnY).2=0:=by decide+kernel
theorem qsn_4:(combP woB qsnW qsnY).2=0:=by decide+kernel
theorem qsn_5:(combP orB [] (combP anB qsnW qsnY).1).2=0:=by decide+kernel
theorem qsn_h:(qsnP.any fun b=>conB b qsnH)=false:=by decide+kernel
theorem qsn_k:(qsnP.any fun b=>conB b qsnK)=true:=by decide+kernel
theorem qsn_xh:(qsnX.any fun b=>conB b qsnH)=true:=by decide+kernel
theorem qsn_re:realH netR qsnH=true:=by decide+kernel
theorem qsn_ord:ordP qsnN 0=[1,0]:=by decide+kernel
theorem qsn_b:stmP netR qsnN qsnB=qsnS sshS:=qsn_stm qsnB rfl rfl rfl
theorem qsn_a:stmP netR qsnN qsnA=qsnS eS:=qsn_stm qsnA rfl rfl rfl
theorem qsnN_chk:chkP netR qsnN=0:=by
 have n1:namE netR qsnN qsnA=0:=by decide+kernel
 have n2:namE netR qsnN qsnB=0:=by decide+kernel
 have e1:fstE (fun d:Df=>(grpP netR qsnN d.name).2) qsnN.grps=0:=rfl
 have e2:fstE (fun d:Df=>(svcP qsnN d.name).2) qsnN.svcs=0:=by decide+kernel
 have e3:fstE (fun s:Sm=>if(stmP netR qsnN s).2≠0 then(stmP netR qsnN s).2 else namE netR qsnN s) qsnN.sts=0:=by
  show fstE (fun s:Sm=>if(stmP netR qsnN s).2≠0 then(stmP netR qsnN s).2 else namE netR qsnN s) [qsnA,qsnB]=0
  rw[fstE_cons,if_neg (by rw[qsn_a,qsn_y,n1];simp),fstE_cons,if_neg (by rw[qsn_b,qsn_x,n2];simp)]
  rfl
 rw[chkP_eq,e1,if_neg zx,e2,if_neg zx,e3,if_neg zx]
 rfl
theorem qsnN_pre:preV netR qsnN 0=0:=by
 rw[preV,if_pos ⟨comp_netR,ntB_true qsnN_ok⟩,if_pos zd,qsnN_chk]
theorem qsnN_at:atP netR qsnN 0=(⟨qsnP,[]⟩,0):=by
 have p1:putP [] qsnA.cls (combP anB qsnW qsnY).1=([],0):=by rw[putP,if_pos (.inl sEq_e)]
 rw[atP,if_neg (by rw[qsn_real];simp),qsn_ord,atGo]
 simp only[show qsnN.sts[1]? =some qsnB from rfl,qsn_b]
 rw[if_neg (by rw[show(combP anB (realP netR).1 (qsnS sshS).1).2=0 from qsn_1];simp),if_neg (by rw[show(combP woB (realP netR).1 (qsnS sshS).1).2=0 from qsn_2];simp),if_pos (show qsnB.permit=false from rfl),atGo]
 simp only[show qsnN.sts[0]? =some qsnA from rfl,qsn_a]
 rw[if_neg (by rw[show(combP anB (combP woB (realP netR).1 (qsnS sshS).1).1 (qsnS eS).1).2=0 from qsn_3];simp),if_neg (by rw[show(combP woB (combP woB (realP netR).1 (qsnS sshS).1).1 (qsnS eS).1).2=0 from qsn_4];simp),if_neg zd]
 rw[if_neg (by rw[show(combP orB zPol.allow (combP anB (combP woB (realP netR).1 (qsnS sshS).1).1 (qsnS eS).1).1).2=0 from qsn_5];simp)]
 rw[show putP zPol.insp qsnA.cls (combP anB (combP woB (realP netR).1 (qsnS sshS).1).1 (qsnS eS).1).1=([],0)from p1]
 rfl
theorem qsnN_atV:atV netR qsnN 0=(⟨qsnP,[]⟩,0):=by rw[atV,if_neg (by rw[qsnN_pre];simp),qsnN_at]
theorem qsnN_dec:decV netR qsnN 0 qsnH=(false,1):=by
 have e:(ordP qsnN 0).find? (hitN netR qsnN (hdQ qsnH))=some 1:=by
  rw[qsn_ord,List.find?_cons]
  have:hitN netR qsnN (hdQ qsnH) 1=true:=by
   rw[<-hit_con (show qsnN.sts[1]? =some qsnB from rfl) qsnH_ok,qsn_b];exact qsn_xh
  rw[this]
 rw[decV,if_neg (by rw[qsnN_pre];simp),decH,if_pos qsn_re,e]
 rfl
theorem qsnN_pol:PolOk netR ⟨qsnP,[]⟩:=by
 have:=atP_ok (m:=0) comp_netR (ntB_true qsnN_ok) (by rw[qsnN_at])
 rwa[qsnN_at]at this
end Go.Proofs.YtbdikofefjljoaaGreatDoor
