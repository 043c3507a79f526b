/- The program's way to the policy at a minute: plain. -/
import Derived.Test.YtbdikofefjljoaaGreatDoorM32
set_option linter.unusedVariables false
set_option linter.unusedSimpArgs false
set_option maxRecDepth 100000
set_option maxHeartbeats 4000000
namespace Go.Proofs.YtbdikofefjljoaaGreatDoor
open Go Go.Vm
noncomputable def tryP(g:ByteArray->Option (List Bx))(rest allow:List Bx)(x:Sm)(S:List Bx):Int×List Bx×List Bx×(ByteArray->Option (List Bx)):=
 if(combP anB rest S).2≠0 then((combP anB rest S).2,rest,allow,g)else
 if(combP woB rest S).2≠0 then((combP woB rest S).2,(combP woB rest S).1,allow,g)else
 if x.permit=false then(0,(combP woB rest S).1,allow,g)else
 if(combP orB allow (combP anB rest S).1).2≠0 then((combP orB allow (combP anB rest S).1).2,(combP woB rest S).1,(combP orB allow (combP anB rest S).1).1,g)else
 if sEq x.cls ⟨#[]⟩=true then(0,(combP woB rest S).1,(combP orB allow (combP anB rest S).1).1,g)else
 ((combP orB ((g x.cls).getD []) (combP anB rest S).1).2,(combP woB rest S).1,(combP orB allow (combP anB rest S).1).1,updS g x.cls (combP orB ((g x.cls).getD []) (combP anB rest S).1).1)
theorem putG_len(c:ByteArray)(s:List Bx):∀l:List Insp,(putG l c s).1.length<=l.length+1
 |[]=>by simp[putG]
 |y::r=>by
  have:=putG_len c s r
  unfold putG
  split
  ·simp only[List.length_cons];omega
  ·split<;>simp
theorem putP_len(c:ByteArray)(s:List Bx)(l:List Insp):(putP l c s).1.length<=l.length+1:=by
 unfold putP
 split
 ·simp
 ·exact putG_len c s l
theorem try_step{t:Tp}{i:Nt}{n:Nat}{r:List Nat}{x:Sm}(hx:i.sts[n]? =some x){g:ByteArray->Option (List Bx)}{rest:List Bx}{p:Pol}(hg:MapR g p.insp):
  ((tryP g rest p.allow x (stmP t i x).1).1≠0->atGo t i (n::r) rest p=(zPol,(tryP g rest p.allow x (stmP t i x).1).1))/\
  ((tryP g rest p.allow x (stmP t i x).1).1=0->setB rest=true->setB p.allow=true->∃l,atGo t i (n::r) rest p=atGo t i r (tryP g rest p.allow x (stmP t i x).1).2.1 ⟨(tryP g rest p.allow x (stmP t i x).1).2.2.1,l⟩/\l.length<=p.insp.length+1/\MapR (tryP g rest p.allow x (stmP t i x).1).2.2.2 l/\
    setB (tryP g rest p.allow x (stmP t i x).1).2.1=true/\setB (tryP g rest p.allow x (stmP t i x).1).2.2.1=true):=by
 unfold tryP
 rw[atGo]
 simp only[hx]
 by_cases h1:(combP anB rest (stmP t i x).1).2≠0
 ·rw[if_pos h1,if_pos h1]
  exact⟨fun _=>rfl,fun h=>absurd h h1⟩
 rw[if_neg h1,if_neg h1]
 by_cases h2:(combP woB rest (stmP t i x).1).2≠0
 ·rw[if_pos h2,if_pos h2]
  exact⟨fun _=>rfl,fun h=>absurd h h2⟩
 rw[if_neg h2,if_neg h2]
 by_cases h3:x.permit=false
 ·rw[if_pos h3,if_pos h3]
  exact⟨fun h=>absurd rfl h,fun _ _ ha=>⟨p.insp,rfl,by omega,hg,setB_combP ..,ha⟩⟩
 rw[if_neg h3,if_neg h3]
 by_cases h4:(combP orB p.allow (combP anB rest (stmP t i x).1).1).2≠0
 ·rw[if_pos h4,if_pos h4]
  exact⟨fun _=>rfl,fun h=>absurd h h4⟩
 rw[if_neg h4,if_neg h4]
 by_cases h5:sEq x.cls ⟨#[]⟩=true
 ·rw[if_pos h5]
  have hp:putP p.insp x.cls (combP anB rest (stmP t i x).1).1=(p.insp,0):=by rw[putP,if_pos (.inl h5)]
  rw[hp,if_neg zx]
  exact⟨fun h=>absurd rfl h,fun _ _ _=>⟨p.insp,rfl,by omega,hg,setB_combP ..,setB_combP ..⟩⟩
 rw[if_neg h5]
 obtain⟨m1,m2⟩:=hg.put (c:=x.cls) (by simpa using h5) (setB_combP anB rest (stmP t i x).1)
 by_cases h6:(putP p.insp x.cls (combP anB rest (stmP t i x).1).1).2≠0
 ·rw[if_pos h6]
  exact⟨fun _=>by rw[m1],fun h=>by rw[m1]at h6;exact absurd h h6⟩
 ·rw[if_neg h6]
  exact⟨fun h=>by rw[m1]at h6;exact absurd h h6,fun _ _ _=>⟨_,rfl,putP_len ..,m2 (Decidable.byContradiction h6),setB_combP ..,setB_combP ..⟩⟩
/-! the sets of the classes out of the map, in whatever order -/
noncomputable def outK(g:ByteArray->Option (List Bx))(k:ByteArray):List Insp:=match g k with
 |some s=>if s=[]then []else [⟨k,s⟩]
 |none=>[]
noncomputable def outL(g:ByteArray->Option (List Bx))(L:List ByteArray):List Insp:=L.flatMap (outK g)
theorem outK_mem{g:ByteArray->Option (List Bx)}{k:ByteArray}{x:Insp}:x∈outK g k↔x.cls=k/\g k=some x.set/\x.set≠[]:=by
 unfold outK
 cases h:g k with
 |none=>simp
 |some s=>
  simp only
  split
  ·rename_i e
   subst e
   simp only[List.not_mem_nil,Option.some.injEq,false_iff]
   rintro⟨_,h1,h2⟩;exact h2 h1.symm
  ·rename_i e
   simp only[List.mem_singleton,Option.some.injEq]
   constructor
   ·rintro rfl;exact⟨rfl,rfl,e⟩
   ·rintro⟨rfl,rfl,_⟩;rfl
theorem outL_cls(g:ByteArray->Option (List Bx)):∀L:List ByteArray,((outL g L).map Insp.cls).Sublist L
 |[]=>by simp[outL]
 |k::L=>by
  have ih:=outL_cls g L
  unfold outL at ih⊢
  rw[List.flatMap_cons,List.map_append]
  unfold outK
  cases h:g k with
  |none=>exact ih.cons k
  |some s=>
   simp only
   split
   ·exact ih.cons k
   ·exact ih.cons_cons k
theorem od_nodup{l:List Insp}(h:l.Pairwise fun x y=>ltS x.cls y.cls=true):l.Nodup:=
 h.imp fun hab e=>by rw[e,ltS_irr]at hab;cases hab
theorem out_perm{g:ByteArray->Option (List Bx)}{l:List Insp}(h:MapR g l){L:List ByteArray}(hn:L.Nodup)(hm:∀k,k∈L↔∃s,g k=some s):(outL g L).Perm l:=by
 refine(List.perm_ext_iff_of_nodup ?_ (od_nodup h.od)).2 fun x=>?_
 ·have h1:=(outL_cls g L).nodup hn
  rw[List.Nodup,List.pairwise_map]at h1
  exact h1.imp fun hab e=>hab (by rw[e])
 ·unfold outL
  rw[List.mem_flatMap,h.mem x]
  constructor
  ·rintro⟨k,_,hk⟩
   obtain⟨rfl,h1,h2⟩:=outK_mem.1 hk
   exact⟨h1,h2⟩
  ·rintro⟨h1,h2⟩
   exact⟨x.cls,(hm _).2 ⟨_,h1⟩,outK_mem.2 ⟨rfl,h1,h2⟩⟩
theorem outL_mid(g:ByteArray->Option (List Bx))(C:List Insp)(l1:List ByteArray)(k:ByteArray)(l2:List ByteArray):(C++outL g (l1++k::l2)).Perm ((C++outK g k)++outL g (l1++l2)):=by
 unfold outL
 rw[List.flatMap_append,List.flatMap_cons,List.flatMap_append,List.append_assoc]
 refine List.Perm.append_left C ?_
 rw[<-List.append_assoc,<-List.append_assoc]
 exact List.Perm.append_right _ List.perm_append_comm
/-! the sort by insertion sorts -/
section
variable {α:Type} {lt:α->α->Bool} (h1:∀a b,lt a b=true->lt b a=false) (h2:∀a b c,lt a b=false->lt b c=false->lt a c=false)
include h1 h2
theorem insRev_sorted{x:α}:∀{l:List α},l.Pairwise (fun a b=>lt a b=false)->(insRev lt l x).Pairwise fun a b=>lt a b=false
 |[],_=>by simp[insRev]
 |y::ys,h=>by
  obtain⟨a1,a2⟩:=List.pairwise_cons.1 h
  simp only[insRev]
  split
  ·rename_i hxy
   refine List.pairwise_cons.2 ⟨fun z hz=>?_,insRev_sorted a2⟩
   rcases insRev_mem.1 hz with rfl|hz
   ·exact h1 _ _ hxy
   ·exact a1 z hz
  ·rename_i hxy
   have hxy:lt x y=false:=by simpa using hxy
   refine List.pairwise_cons.2 ⟨fun z hz=>?_,h⟩
   rcases List.mem_cons.1 hz with rfl|hz
   ·exact hxy
   ·exact h2 _ _ _ hxy (a1 z hz)
theorem isort_sorted(l:List α):(isort lt l).Pairwise fun a b=>lt b a=false:=by
 unfold isort sortRev
 rw[List.pairwise_reverse]
 suffices h:∀(l acc:List α),acc.Pairwise (fun a b=>lt a b=false)->(l.foldl (insRev lt) acc).Pairwise fun a b=>lt a b=false from h l [] List.Pairwise.nil
 intro l
 induction l with
 |nil=>intro acc h;exact h
 |cons x l ih=>intro acc h;exact ih _ (insRev_sorted h1 h2 h)
end
theorem ltS_as(a b:ByteArray)(h:ltS a b=true):ltS b a=false:=(bl_asymm _ _ h).1
theorem ltS_nt(a b c:ByteArray)(h:ltS a b=false)(h':ltS b c=false):ltS a c=false:=by
 rw[Bool.eq_false_iff]
 intro hac
 by_cases e:(b.toList==c.toList)=true
 ·have e':b=c:=sEq_iff.1 e
  rw[e',hac]at h;cases h
 ·have hcb:ltS c b=true:=bl_total _ _ h' (by simpa using e)
  have:ltS a b=true:=bl_trans _ _ _ hac hcb
  rw[this]at h;cases h
theorem sorted_eq:∀{l m:List Insp},l.Perm m->l.Pairwise (fun x y=>ltS x.cls y.cls=true)->m.Pairwise (fun x y=>ltS x.cls y.cls=true)->l=m
 |[],m,h,_,_=>(List.Perm.nil_eq h)
 |x::l,[],h,_,_=>absurd h.length_eq zx
 |x::l,y::m,h,h1,h2=>by
  obtain⟨a1,a2⟩:=List.pairwise_cons.1 h1
  obtain⟨b1,b2⟩:=List.pairwise_cons.1 h2
  have hxy:x=y:=by
   rcases List.mem_cons.1 (h.subset (List.mem_cons_self))with e|hx
   ·exact e
   ·rcases List.mem_cons.1 (h.symm.subset (List.mem_cons_self))with e|hy
    ·exact e.symm
    ·have c1:=b1 x hx
     have c2:=a1 y hy
     have:=ltS_as _ _ c1
     rw[c2]at this;cases this
  subst hxy
  rw[sorted_eq (List.perm_cons x|>.1 h) a2 b2]
def cmpB(a b:ByteArray):Int:=if ltS a b=true then-1 else if ltS b a=true then 1 else 0
theorem cmpB_lt(a b:ByteArray):decide (cmpB a b<0)=ltS a b:=by
 unfold cmpB
 by_cases h1:ltS a b=true
 ·simp[h1]
 ·by_cases h2:ltS b a=true<;>simp[h1,h2]
theorem insp_sort{C l:List Insp}(hp:C.Perm l)(hl:l.Pairwise fun x y=>ltS x.cls y.cls=true):isort (fun x y=>decide (cmpB x.cls y.cls<0)) C=l:=by
 have e:(fun x y:Insp=>decide (cmpB x.cls y.cls<0))=fun x y=>ltS x.cls y.cls:=by funext x y;exact cmpB_lt _ _
 rw[e]
 have hs:=isort_sorted (lt:=fun x y:Insp=>ltS x.cls y.cls) (fun a b h=>ltS_as _ _ h) (fun a b c h h'=>ltS_nt _ _ _ h h') C
 have hpm:(isort (fun x y:Insp=>ltS x.cls y.cls) C).Perm l:=(isort_perm _ C).trans hp
 refine sorted_eq hpm ?_ hl
 have hnd:((isort (fun x y:Insp=>ltS x.cls y.cls) C).map Insp.cls).Nodup:=by
  rw[(hpm.map Insp.cls).nodup_iff,List.Nodup,List.pairwise_map]
  exact hl.imp fun hab e=>by rw[e,ltS_irr]at hab;cases hab
 rw[List.Nodup,List.pairwise_map]at hnd
 refine List.Pairwise.imp₂ (fun a b h1 h2=>?_) hs hnd
 exact bl_total _ _ h1 (by
  rw[Bool.eq_false_iff]
  intro e
  exact h2 (sEq_iff.1 e).symm)
theorem err_make(l:List Bx):(makeP l).2=0\/(makeP l).2=3:=by
 have:∀(l s:List Bx),(makeGo s l).2=0\/(makeGo s l).2=3:=by
  intro l
  induction l with
  |nil=>intro s;exact .inl rfl
  |cons b l ih=>
   intro s
   rw[makeGo]
   split
   ·split
    ·exact .inr rfl
    ·exact ih _
   ·exact ih _
 exact this l []
theorem err_giv(l:List Bx):(givP l).2=0\/(givP l).2=3:=by
 unfold givP
 split
 ·exact .inl rfl
 ·exact err_make l
theorem err_comb(op:Bool->Bool->Bool)(a b:List Bx):(combP op a b).2=0\/(combP op a b).2=3:=by
 unfold combP
 split
 ·rename_i h
  rcases err_giv a with h1|h1
  ·exact absurd h1 h
  ·exact .inr h1
 ·split
  ·rename_i h
   rcases err_giv b with h1|h1
   ·exact absurd h1 h
   ·exact .inr h1
  ·simp only[limE]
   split
   ·exact .inr rfl
   ·exact .inl rfl
def ErrL(e:Int):Prop:=e=0\/e=3\/e=5\/e=8
theorem ErrL.two{e:Int}(h:e=0\/e=3):ErrL e:=by rcases h with h|h<;>simp[ErrL,h]
theorem ErrL.three{e:Int}(h:e=0\/e=5\/e=8):ErrL e:=by rcases h with h|h|h<;>simp[ErrL,h]
theorem err_bind{α:Type}{x:α×Int}{k:α->List Bx×Int}(h1:ErrL x.2)(h2:ErrL (k x.1).2):ErrL (bindE x k).2:=by
 unfold bindE
 split
 ·exact h1
 ·exact h2
theorem err_svcGo:∀(its:List It) (s:List Bx),ErrL (svcGo its s).2
 |[],s=>.inl rfl
 |x::r,s=>by
  rw[svcGo]
  split
  ·exact .two (err_comb ..)
  ·split
   ·exact .two (err_comb ..)
   ·exact err_svcGo r _
theorem err_svc(i:Nt)(nm:ByteArray):ErrL (svcP i nm).2:=by
 unfold svcP
 split
 ·exact .inl rfl
 ·split
  ·exact .three (svcF_err ..)
  ·exact err_svcGo _ _
theorem err_grp(t:Tp)(i:Nt)(nm:ByteArray):ErrL (grpP t i nm).2:=.three (grpP_err t i nm)
theorem err_stm(t:Tp)(i:Nt)(x:Sm):ErrL (stmP t i x).2:=by
 unfold stmP
 refine err_bind (err_grp ..) (err_bind (err_grp ..) (err_bind (err_svc ..) (err_bind ?_ (err_bind ?_ (err_bind (.two (err_make _)) ?_)))))
 ·split
  ·exact err_grp ..
  ·exact .inl rfl
 ·split
  ·exact err_grp ..
  ·exact .inl rfl
 ·split
  ·exact .two (err_comb ..)
  ·exact err_bind (.two (err_make _)) (.two (err_comb ..))
theorem err_fst{α:Type}{f:α->Int}(h:∀x,ErrL (f x)):∀l:List α,ErrL (fstE f l)
 |[]=>.inl rfl
 |x::l=>by
  unfold fstE
  split
  ·exact h x
  ·exact err_fst h l
theorem err_chk(t:Tp)(i:Nt):ErrL (chkP t i):=by
 have hn:∀s,ErrL (namE t i s):=fun s=>by
  unfold namE
  split
  ·exact .inl rfl
  ·exact .inr (.inr (.inl rfl))
 rw[chkP_eq]
 split
 ·exact err_fst (fun d=>err_grp ..) _
 split
 ·exact err_fst (fun d=>err_svc ..) _
 split
 ·exact err_fst (fun s=>by split;exact err_stm ..;exact hn s) _
 split
 ·exact err_fst (fun p=>by split;exact .inr (.inr (.inl rfl));exact .inl rfl) _
 ·exact err_fst (fun h=>by split;exact .inr (.inr (.inl rfl));exact err_grp ..) _
theorem err_real(t:Tp):(realP t).2=0\/(realP t).2=3:=by
 unfold realP
 split
 ·exact err_make _
 ·exact err_comb ..
theorem err_putG(c:ByteArray)(s:List Bx):∀l:List Insp,(putG l c s).2=0\/(putG l c s).2=3
 |[]=>.inl rfl
 |y::r=>by
  unfold putG
  split
  ·exact err_putG c s r
  ·split
   ·exact err_comb ..
   ·exact .inl rfl
theorem err_put(l:List Insp)(c:ByteArray)(s:List Bx):(putP l c s).2=0\/(putP l c s).2=3:=by
 unfold putP
 split
 ·exact .inl rfl
 ·exact err_putG c s l
theorem err_atGo(t:Tp)(i:Nt):∀(l:List Nat) (rest:List Bx) (p:Pol),((atGo t i l rest p).2=0\/(atGo t i l rest p).2=3)/\((atGo t i l rest p).2≠0->(atGo t i l rest p).1=zPol)
 |[],rest,p=>⟨.inl rfl,fun h=>absurd rfl h⟩
 |n::l,rest,p=>by
  rw[atGo]
  cases i.sts[n]? with
  |none=>exact⟨.inl rfl,fun h=>absurd rfl h⟩
  |some x=>
   simp only
   split
   ·exact⟨err_comb ..,fun _=>rfl⟩
   split
   ·exact⟨err_comb ..,fun _=>rfl⟩
   split
   ·exact err_atGo t i l _ _
   split
   ·exact⟨err_comb ..,fun _=>rfl⟩
   split
   ·exact⟨err_put ..,fun _=>rfl⟩
   ·exact err_atGo t i l _ _
theorem err_at(t:Tp)(i:Nt)(m:Int):((atP t i m).2=0\/(atP t i m).2=3)/\((atP t i m).2≠0->(atP t i m).1=zPol):=by
 unfold atP
 split
 ·exact⟨err_real t,fun _=>rfl⟩
 ·exact err_atGo ..
theorem err_atV{t:Tp}{i:Nt}{m:Int}(hc:compB t=true)(hn:ntB i=true)(h0:0<=m)(h1:m<10080):ErrL (atV t i m).2/\((atV t i m).2≠0->(atV t i m).1=zPol):=by
 unfold atV
 split
 ·rename_i h
  have e:preV t i m=chkP t i:=by rw[preV,if_pos ⟨hc,hn⟩,if_pos ⟨h0,h1⟩]
  rw[e]
  exact⟨err_chk t i,fun _=>rfl⟩
 ·exact⟨.two (err_at t i m).1,(err_at t i m).2⟩
theorem con_inK(b:Bx)(h:Hd):conB b h=true↔inK (hdQ h) 5 b=true/\b.ok:=by
 rw[conB_iff]
 simp only[inK,Bx.get,hdQ,Nat.sub_zero,Nat.reduceSub,Bool.and_true,Bool.and_eq_true,decide_eq_true_eq]
 constructor
 ·rintro⟨h0,h1,h2,h3,h4,h5⟩;exact⟨⟨h0,h1,h2,h3,h4⟩,h5⟩
 ·rintro⟨⟨h0,h1,h2,h3,h4⟩,h5⟩;exact⟨h0,h1,h2,h3,h4,h5⟩
theorem con_vld(l:List Bx)(h:Hd):memK (hdQ h) 5 (vldB l)=l.any fun b=>conB b h:=by
 rw[Bool.eq_iff_iff,memK_iff,List.any_eq_true]
 constructor
 ·rintro⟨b,hb,hi⟩
  unfold vldB at hb
  obtain⟨h1,h2⟩:=List.mem_filter.1 hb
  exact⟨b,h1,(con_inK b h).2 ⟨hi,by simpa using h2⟩⟩
 ·rintro⟨b,hb,hc⟩
  obtain⟨h1,h2⟩:=(con_inK b h).1 hc
  exact⟨b,List.mem_filter.2 ⟨hb,by simpa using h2⟩,h1⟩
theorem pairs_mem{es:List Ed}{x:Bx}:x∈pairsB es↔∃(a b:Nat) (ea eb:Ed),es[a]? =some ea/\es[b]? =some eb/\a≠b/\x=whoB ea.pf eb.pf:=by
 unfold pairsB pairsTo pairsAt
 simp only[List.take_length,List.mem_flatMap,List.mem_map,List.mem_filter,List.mem_zipIdx_iff_getElem?,decide_eq_true_eq]
 constructor
 ·rintro⟨⟨ea,a⟩,ha,⟨eb,b⟩,⟨hb,hn⟩,rfl⟩
  exact⟨a,b,ea,eb,ha,hb,hn,rfl⟩
 ·rintro⟨a,b,ea,eb,ha,hb,hn,rfl⟩
  exact⟨(ea,a),ha,(eb,b),⟨hb,hn⟩,rfl⟩
theorem edgeAt_get{t:Tp}{v:Int}(h:0<=edgeAt t v):∃(a:Nat) (e:Ed),edgeAt t v=a/\t.edges[a]? =some e:=by
 rcases firstIx_cases (fun e:Ed=> !e.pl&&e.pf.has v) t.edges with h1|⟨k,x,h1,h2⟩
 ·have h1:edgeAt t v= -1:=h1
  omega
 ·exact⟨k,x,h1,h2⟩
theorem pairs_con{t:Tp}(g:GTop t){h:Hd}(ho:h.Ok):((pairsB t.edges).any fun b=>conB b h)=decide (0<=edgeAt t h.src/\0<=edgeAt t h.dst/\edgeAt t h.src≠edgeAt t h.dst):=by
 rw[Bool.eq_iff_iff,List.any_eq_true,decide_eq_true_eq]
 constructor
 ·rintro⟨x,hx,hc⟩
  obtain⟨a,b,ea,eb,ha,hb,hn,rfl⟩:=pairs_mem.1 hx
  rw[whole_at g ha hb ho,Bool.and_eq_true,decide_eq_true_eq,decide_eq_true_eq]at hc
  omega
 ·rintro⟨h1,h2,h3⟩
  obtain⟨a,ea,e1,ha⟩:=edgeAt_get h1
  obtain⟨b,eb,e2,hb⟩:=edgeAt_get h2
  refine⟨whoB ea.pf eb.pf,pairs_mem.2 ⟨a,b,ea,eb,ha,hb,by omega,rfl⟩,?_⟩
  rw[whole_at g ha hb ho,e1,e2]
  simp
theorem real_mem{t:Tp}(g:GTop t)(he:(realP t).2=0){h:Hd}(ho:h.Ok):memK (hdQ h) 5 (realP t).1=realH t h:=by
 have hq:=hdQ_in ho
 unfold realP at he⊢
 split at he
 ·rename_i h1;exact absurd he h1
 rename_i h1
 have h1:(makeP (pairsB t.edges)).2=0:=Decidable.byContradiction h1
 rw[if_neg (by simpa using h1),combP_mem (setB_makeP _) init_set he hq,makeP,makeGo_eq hq _ _ h1,memK_nil,Bool.false_or]
 unfold realH
 rw[con_mem init_set ho]
 rw[con_vld,pairs_con g ho]
 rfl
theorem dec_mem{t:Tp}(g:GTop t){i:Nt}{m:Int}(he:(realP t).2=0){h:Hd}(ho:h.Ok):decN t i m (hdQ h)=decH t i m h:=by
 rw[decN,decH,real_mem g he ho]
theorem real_err{t:Tp}{i:Nt}{m:Int}(he:(atP t i m).2=0):(realP t).2=0:=by
 unfold atP at he
 split at he
 ·rename_i h;exact absurd he h
 ·rename_i h;exact Decidable.byContradiction h
theorem atP_inv{t:Tp}{i:Nt}{m:Int}(hn:ntB i=true)(he:(atP t i m).2=0):∃r,AtInv t r (atP t i m).1:=by
 unfold atP at he⊢
 split at he
 ·rename_i h;exact absurd he h
 rename_i h
 rw[if_neg h]
 exact atGo_inv (t:=t) (nt_cls hn) (ordP i m) (realP t).1 zPol (atInv_start t) he
theorem od_inj{l:List Insp}(h:l.Pairwise fun x y=>ltS x.cls y.cls=true){x y:Insp}(hx:x∈l)(hy:y∈l)(he:x.cls=y.cls):x=y:=by
 obtain⟨i,hi,rfl⟩:=List.mem_iff_getElem.1 hx
 obtain⟨j,hj,rfl⟩:=List.mem_iff_getElem.1 hy
 have hp:=List.pairwise_iff_getElem.1 h
 rcases Nat.lt_trichotomy i j with hij|hij|hij
 ·have:=hp i j hi hj hij;rw[he,ltS_irr]at this;cases this
 ·subst hij;rfl
 ·have:=hp j i hj hi hij;rw[he,ltS_irr]at this;cases this
structure PtF (i:Nt) (p:Pol) (h:Hd) (ok:Bool) (s:Int):Prop where
 allow:(p.allow.any fun b=>conB b h)=ok
 insp:∀y,y∈p.insp->(y.set.any fun b=>conB b h)=(ok&&sEq (clsN i s.toNat) y.cls)
 found:ok=true->sEq (clsN i s.toNat) ⟨#[]⟩=false->∃y,y∈p.insp/\sEq y.cls (clsN i s.toNat)=true
 lo: -1<=s
 hi:s<i.sts.length
 pos:ok=true->0<=s
theorem pt_law{t:Tp}(g:GTop t){i:Nt}{m:Int}(hn:ntB i=true)(hp:preV t i m=0)(he:(atP t i m).2=0){h:Hd}(ho:h.Ok):PtF i (atP t i m).1 h (decV t i m h).1 (decV t i m h).2:=by
 obtain⟨r,hr⟩:=atP_inv hn he
 obtain⟨m1,m2⟩:=atP_mem (m:=m) (fun x _=>stmP_set t i x) he (hdQ_in ho)
 rw[dec_mem g (real_err he) ho]at m1
 simp only[dec_mem g (real_err he) ho]at m2
 generalize (atP t i m).1=p at*
 have hv:decV t i m h=match decH t i m h with
  |some n=>(perN i n,(n:Int))
  |none=>(false,-1):=by
   rw[decV,if_neg zo]
   rfl
 rw[hv]
 have ha:=con_mem hr.al ho
 have hset:∀y,y∈p.insp->((y.set.any fun b=>conB b h)=true↔∃n,decH t i m h=some n/\perN i n=true/\clsN i n=y.cls/\y.cls≠⟨#[]⟩):=fun y hy=>by
  rw[con_mem (hr.st y hy) ho,<-m2 y.cls]
  constructor
  ·intro h1;exact⟨y,hy,rfl,h1⟩
  ·rintro⟨z,hz,hc,h1⟩
   rw[od_inj hr.od hz hy hc]at h1;exact h1
 have hne:∀y,y∈p.insp->y.cls≠⟨#[]⟩:=fun y hy e=>by
  have:=(hr.nm y hy).1
  rw[e]at this
  simp at this
 cases hd:decH t i m h with
 |none=>
  simp only[hd]at m1 hset
  refine⟨by rw[ha,m1],fun y hy=>?_,fun h=>(by cases h),Int.le_refl _,by simp only;omega,fun h=>(by cases h)⟩
  rw[Bool.false_and,Bool.eq_false_iff,ne_eq,hset y hy]
  rintro⟨n,h1,_⟩;cases h1
 |some n=>
  simp only[hd]at m1 hset
  have hnl:n<i.sts.length:=by
   unfold decH at hd
   split at hd
   ·exact ordF_lt (List.mem_of_find?_eq_some hd)
   ·cases hd
  refine⟨by rw[ha,m1],fun y hy=>?_,fun h1 h2=>?_,by simp only;omega,by simp only;omega,fun _=>by simp only;omega⟩
  ·simp only[Int.toNat_natCast]
   rw[Bool.eq_iff_iff,hset y hy,Bool.and_eq_true,sEq_iff]
   constructor
   ·rintro⟨k,h1,h2,h3,_⟩;cases h1;exact⟨h2,h3⟩
   ·rintro⟨h2,h3⟩;exact⟨n,rfl,h2,h3,hne y hy⟩
  ·simp only[Int.toNat_natCast]at h1 h2⊢
   have h2':clsN i n≠⟨#[]⟩:=fun e=>by rw[sEq_iff.2 e]at h2;cases h2
   obtain⟨y,hy,hc,_⟩:=(m2 (clsN i n)).2 ⟨n,hd,h1,rfl,h2'⟩
   exact⟨y,hy,sEq_iff.2 hc⟩
theorem atV_ok{t:Tp}{i:Nt}{m:Int}(he:(atV t i m).2=0):preV t i m=0/\atV t i m=atP t i m/\(atP t i m).2=0:=by
 unfold atV at he
 by_cases h:preV t i m=0
 ·rw[if_neg zo]at he
  exact⟨h,by rw[atV,if_neg zo],he⟩
 ·rw[if_pos h]at he;exact absurd he h
theorem atGo_few(t:Tp)(i:Nt):∀(l:List Nat) (rest:List Bx) (p:Pol),(atGo t i l rest p).1.insp.length<=p.insp.length+l.length
 |[],rest,p=>Nat.le_refl _
 |n::l,rest,p=>by
  rw[atGo]
  cases i.sts[n]? with
  |none=>exact Nat.le_add_right _ _
  |some x=>
   simp only
   split
   ·exact Nat.zero_le _
   split
   ·exact Nat.zero_le _
   split
   ·have:=atGo_few t i l (combP woB rest (stmP t i x).1).1 p
    rw[List.length_cons];omega
   split
   ·exact Nat.zero_le _
   split
   ·exact Nat.zero_le _
   ·refine Nat.le_trans (atGo_few t i l _ _) ?_
    have:=putP_len x.cls (combP anB rest (stmP t i x).1).1 p.insp
    rw[List.length_cons]
    simp only
    omega
theorem atP_few{t:Tp}{i:Nt}{m:Int}(hn:ntB i=true):(atP t i m).1.insp.length<=i.sts.length:=by
 unfold atP
 split
 ·exact Nat.zero_le _
 ·have h1:=atGo_few t i (ordP i m) (realP t).1 zPol
  have h2:=ordP_len (i:=i) (m:=m) (fun x hx=>by
   have:=(ntB_iff.1 hn).t x hx
   unfold smB at this
   simp only[Bool.and_eq_true,decide_eq_true_eq]at this
   exact this.2.2.2)
  have h3:zPol.insp.length=0:=rfl
  omega
theorem ACall.nil3{P:Program}{f:FuncId}{a b:AV}{hs:List Vm.Obj}{K:KT}(h:ACall P f [a,b,.lst []] hs K):ACall P f [a,b,.nils] hs K:=by
 obtain⟨hok,h2⟩:=h.elim
 refine ACall.intro hok fun ι E w vals r hv=>h2 ι E w vals r ⟨hv.1,fun i x y hx hy=>?_⟩
 match i with
 |0=>exact hv.2 0 x y hx hy
 |1=>exact hv.2 1 x y hx hy
 |2=>
  cases hx
  have:=hv.2 2 .nils y rfl hy
  cases this
  exact .lnil _ _
 |i+3=>simp at hx
theorem enMin(raw:List Int)(pos:Nat)(hp:pos<=raw.length)(hr:raw.length<=9223372036854775807){K:KT}
  (hK:∀(m:Int) (pos':Nat),0<=m->m<10080->pos'<=raw.length->K (.v (.int .i64 m)) [tapeO raw pos']):ACall Tryz.prog 45 [.op 0 0] [tapeO raw pos] K:=by
 refine ofnMin rfl rfl ?_
 (repeat' ((conv=>whnf);first|(with_reducible first|refine nNext raw _ _ zo zw hr fun m1 p1 hm1 hp1=>?_|refine in_nat zo ?_|refine ix_intsB [0,479,480,481,1019,1020,1439,700] 8 0 1439 rfl rfl zd zo fun c h0 h1=>?_)|refine zG ?_|apply zA|(apply zI;intro h)|exact zT));(all_goals conv=>whnf)
 all_goals exact hK _ _ zo zo zw
theorem enIntN(ns:Nat)(hns:ns<=4)(raw:List Int)(pos:Nat)(t:Tp)(hg:GTop t)(hp:pos<=raw.length)(hr:raw.length<=9223372036854775807){K:KT}
  (hK:∀(i:Nt) (pos':Nat),ENt i->pos'<=raw.length->K (encNt i) [tapeO raw pos']):
  ACall Tryz.prog 44 [.op 0 0,encT t,.v (.int .i64 ns)] [tapeO raw pos] K:=enInt raw pos t hg.e5 (by have:=hg.d6;omega) (tpn_top hg) ns hns hp hr hK
theorem coNet(ns:Nat)(hns:ns<=4)(raw:List Int)(pos:Nat)(hp:pos<=raw.length)(hr:raw.length<=9223372036854775807){K:KT}
  (hK:∀(t:Tp) (i:Nt) (m:Int) (pos':Nat),GTop t->t.devs.length<=3->ENt i->0<=m->m<10080->pos'<=raw.length->K (.tup [encT t,encNt i,.v (.int .i64 m)]) [tapeO raw pos']):
  ACall Tryz.prog 11 [.op 0 0,.v (.int .i64 3),.v (.int .i64 ns)] [tapeO raw pos] K:=by
 refine ofoNet rfl rfl ?_
 (repeat' ((conv=>whnf);first|(with_reducible first|refine enTop3f raw _ zw hr fun t p1 ht hd hp1=>?_|refine enIntN ns hns raw _ _ zw zw hr fun i p2 hi hp2=>?_|refine enMin raw _ zw hr fun m p3 m0 m1 hp3=>?_)|refine zG ?_|apply zA|(apply zI;intro h)|exact zT));(all_goals conv=>whnf)
 exact hK t i m p3 ht hd hi m0 m1 hp3
theorem coNear(raw:List Int)(pos:Nat)(t:Tp)(l:List Bx)(ht:t.edges.length<=1000)(hl:l.length<=1000000)(hp:pos<=raw.length)(hr:raw.length<=9223372036854775807){K:KT}
  (hK:∀(g:Hd) (pos':Nat),g.Ok->pos'<=raw.length->K (encHd g) [tapeO raw pos']):ACall Tryz.prog 20 [.op 0 0,encT t,encXs l] [tapeO raw pos] K:=by
 refine ofoNear rfl rfl ?_
 (repeat' ((conv=>whnf);first|(with_reducible first|refine enNear raw _ l hl zw hr fun g p1 hg hp1=>?_|refine nNext raw _ _ (by(try simp only[List.length_map]);omega) zw hr fun m1 p2 hm1 hp2=>?_|refine in_nat (by simp only[List.length_map]at*;omega) ?_|refine ix_map_any (f:=encE) (by simp only[List.length_map]at*;omega) fun e he=>?_|refine wr_u32_any fun r r0 r1=>?_)|refine zG ?_|apply zA|(apply zI;intro h)|exact zT));(all_goals conv=>whnf)
 all_goals first
  |exact hK _ _ zw zw
  |exact hK ⟨r,e.pf.addr,g.pro,g.sp,g.dp⟩ p2 ⟨r0,r1,e.pf.a0,e.pf.a1,hg.p0,hg.p1,hg.a0,hg.a1,hg.b0,hg.b1⟩ zw
  |trace_state
noncomputable abbrev celA(fl:Bool)(a:List Bx):AV:=match fl with
 |true=>.nils
 |false=>encXs a
theorem cxUn0(b:List Bx)(hb:b.length<1000000000){K:KT}(hK:K (.tup [encXs (combP orB [] b).1,.v (.int .i64 (combP orB [] b).2)]) []):ACall Tryz.prog 114 [.lst [],encXs b] [] K:=cxUn [] b zx hb hK
theorem coTry(fl:Bool)(g:ByteArray->Option (List Bx))(rest allow:List Bx)(x:Sm)(S:List Bx)(h0:fl=true->allow=[])(hr:setB rest=true)(ha:setB allow=true)(hS:setB S=true)(hg:∀c s,g c=some s->setB s=true){K:KT}
  (hK:∀fl':Bool,(fl'=true->(tryP g rest allow x S).2.2.1=[])->K (.v (.int .i64 (tryP g rest allow x S).1)) [.box [encXs (tryP g rest allow x S).2.1,celA fl' (tryP g rest allow x S).2.2.1,.mp 1],.map (mapS (tryP g rest allow x S).2.2.2)]):
  ACall Tryz.prog 49 [.op 0 0,encSm x,encXs S] [.box [encXs rest,celA fl allow,.mp 1],.map (mapS g)] K:=by
 have lr:=setBlen hr
 have la:=setBlen ha
 have lS:=setBlen hS
 have lA:(combP anB rest S).1.length<1000000000:=setBlen (setB_combP ..)
 unfold tryP at hK
 refine ofoTry rfl rfl ?_
 cases fl with
 |true=>
  obtain rfl:=h0 rfl
  cases hgc:g x.cls with
  |none=>
   (repeat' ((conv=>whnf);first|(with_reducible first|refine cxInt rest S lr lS ?_|refine cxSub rest S lr lS ?_|refine cxUn0 _ lA ?_|refine mg_none (by simp only[mapS,hgc,Option.map_none]) ?_|refine Mu.intro (mapS_upd g x.cls _) ?_)|refine zG ?_|apply zA|(apply zI;intro h)|exact zT));(all_goals conv=>whnf)
   all_goals first
    |(rw[if_pos zw]at hK;exact hK true (fun _=>rfl))
    |(rw[if_neg (by simpa using(by with_reducible assumption:(combP anB rest S).2=0)),if_pos zw]at hK;exact hK true (fun _=>rfl))
    |(rw[if_neg (by simpa using(by with_reducible assumption:(combP anB rest S).2=0)),if_neg (by simpa using(by with_reducible assumption:(combP woB rest S).2=0)),if_pos zw]at hK
      have hz:(combP woB rest S).2=0:=by with_reducible assumption
      rw[hz]
      exact hK true (fun _=>rfl))
    |(rw[if_neg (by simpa using(by with_reducible assumption:(combP anB rest S).2=0)),if_neg (by simpa using(by with_reducible assumption:(combP woB rest S).2=0)),if_neg (by simp_all)]at hK
      first
       |(rw[if_pos zw]at hK;exact hK false (fun h=>by cases h))
       |(have hz:(combP orB [] (combP anB rest S).1).2=0:=by with_reducible assumption
         rw[if_neg (by simpa using hz)]at hK
         first
          |(rw[if_pos (by unfold sEq;with_reducible assumption)]at hK
            rw[hz]
            exact hK false (fun h=>by cases h))
          |(rw[if_neg (by unfold sEq;simp_all)]at hK
            simp only[hgc,Option.getD_none,Option.getD_some]at hK
            exact hK false (fun h=>by cases h))))
    |trace_state
  |some u=>
   have lu:=setBlen (hg _ _ hgc)
   (repeat' ((conv=>whnf);first|(with_reducible first|refine cxInt rest S lr lS ?_|refine cxSub rest S lr lS ?_|refine cxUn0 _ lA ?_|refine cxUn u _ lu lA ?_|refine mg_some (x:=encXs u) (by simp only[mapS,hgc,Option.map_some]) ?_|refine Mu.intro (mapS_upd g x.cls _) ?_)|refine zG ?_|apply zA|(apply zI;intro h)|exact zT));(all_goals conv=>whnf)
   all_goals first
    |(rw[if_pos zw]at hK;exact hK true (fun _=>rfl))
    |(rw[if_neg (by simpa using(by with_reducible assumption:(combP anB rest S).2=0)),if_pos zw]at hK;exact hK true (fun _=>rfl))
    |(rw[if_neg (by simpa using(by with_reducible assumption:(combP anB rest S).2=0)),if_neg (by simpa using(by with_reducible assumption:(combP woB rest S).2=0)),if_pos zw]at hK
      have hz:(combP woB rest S).2=0:=by with_reducible assumption
      rw[hz]
      exact hK true (fun _=>rfl))
    |(rw[if_neg (by simpa using(by with_reducible assumption:(combP anB rest S).2=0)),if_neg (by simpa using(by with_reducible assumption:(combP woB rest S).2=0)),if_neg (by simp_all)]at hK
      first
       |(rw[if_pos zw]at hK;exact hK false (fun h=>by cases h))
       |(have hz:(combP orB [] (combP anB rest S).1).2=0:=by with_reducible assumption
         rw[if_neg (by simpa using hz)]at hK
         first
          |(rw[if_pos (by unfold sEq;with_reducible assumption)]at hK
            rw[hz]
            exact hK false (fun h=>by cases h))
          |(rw[if_neg (by unfold sEq;simp_all)]at hK
            simp only[hgc,Option.getD_none,Option.getD_some]at hK
            exact hK false (fun h=>by cases h))))
    |trace_state
 |false=>
  cases hgc:g x.cls with
  |none=>
   (repeat' ((conv=>whnf);first|(with_reducible first|refine cxInt rest S lr lS ?_|refine cxSub rest S lr lS ?_|refine cxUn0 _ lA ?_|refine cxUn allow _ la lA ?_|refine mg_none (by simp only[mapS,hgc,Option.map_none]) ?_|refine Mu.intro (mapS_upd g x.cls _) ?_)|refine zG ?_|apply zA|(apply zI;intro h)|exact zT));(all_goals conv=>whnf)
   all_goals first
    |(rw[if_pos zw]at hK;exact hK false (fun h=>by cases h))
    |(rw[if_neg (by simpa using(by with_reducible assumption:(combP anB rest S).2=0)),if_pos zw]at hK;exact hK false (fun h=>by cases h))
    |(rw[if_neg (by simpa using(by with_reducible assumption:(combP anB rest S).2=0)),if_neg (by simpa using(by with_reducible assumption:(combP woB rest S).2=0)),if_pos zw]at hK
      have hz:(combP woB rest S).2=0:=by with_reducible assumption
      rw[hz]
      exact hK false (fun h=>by cases h))
    |(rw[if_neg (by simpa using(by with_reducible assumption:(combP anB rest S).2=0)),if_neg (by simpa using(by with_reducible assumption:(combP woB rest S).2=0)),if_neg (by simp_all)]at hK
      first
       |(rw[if_pos zw]at hK;exact hK false (fun h=>by cases h))
       |(have hz:(combP orB allow (combP anB rest S).1).2=0:=by with_reducible assumption
         rw[if_neg (by simpa using hz)]at hK
         first
          |(rw[if_pos (by unfold sEq;with_reducible assumption)]at hK
            rw[hz]
            exact hK false (fun h=>by cases h))
          |(rw[if_neg (by unfold sEq;simp_all)]at hK
            simp only[hgc,Option.getD_none,Option.getD_some]at hK
            exact hK false (fun h=>by cases h))))
    |trace_state
  |some u=>
   have lu:=setBlen (hg _ _ hgc)
   (repeat' ((conv=>whnf);first|(with_reducible first|refine cxInt rest S lr lS ?_|refine cxSub rest S lr lS ?_|refine cxUn u _ lu lA ?_|refine cxUn allow _ la lA ?_|refine mg_some (x:=encXs u) (by simp only[mapS,hgc,Option.map_some]) ?_|refine Mu.intro (mapS_upd g x.cls _) ?_)|refine zG ?_|apply zA|(apply zI;intro h)|exact zT));(all_goals conv=>whnf)
   all_goals first
    |(rw[if_pos zw]at hK;exact hK false (fun h=>by cases h))
    |(rw[if_neg (by simpa using(by with_reducible assumption:(combP anB rest S).2=0)),if_pos zw]at hK;exact hK false (fun h=>by cases h))
    |(rw[if_neg (by simpa using(by with_reducible assumption:(combP anB rest S).2=0)),if_neg (by simpa using(by with_reducible assumption:(combP woB rest S).2=0)),if_pos zw]at hK
      have hz:(combP woB rest S).2=0:=by with_reducible assumption
      rw[hz]
      exact hK false (fun h=>by cases h))
    |(rw[if_neg (by simpa using(by with_reducible assumption:(combP anB rest S).2=0)),if_neg (by simpa using(by with_reducible assumption:(combP woB rest S).2=0)),if_neg (by simp_all)]at hK
      first
       |(rw[if_pos zw]at hK;exact hK false (fun h=>by cases h))
       |(have hz:(combP orB allow (combP anB rest S).1).2=0:=by with_reducible assumption
         rw[if_neg (by simpa using hz)]at hK
         first
          |(rw[if_pos (by unfold sEq;with_reducible assumption)]at hK
            rw[hz]
            exact hK false (fun h=>by cases h))
          |(rw[if_neg (by unfold sEq;simp_all)]at hK
            simp only[hgc,Option.getD_none,Option.getD_some]at hK
            exact hK false (fun h=>by cases h))))
    |trace_state
theorem coNaNS(x:ByteArray){K:KT}(hK:K (.sb false) []):ACall Tryz.prog 117 [.v (.string x)] [] K:=by
 refine ofoNaNS rfl rfl ?_
 (repeat' ((conv=>whnf);first|refine zG ?_|apply zA|(apply zI;intro h)|exact zT));(all_goals conv=>whnf)
 have e:(!(x.toList==x.toList))=false:=by simp
 first
  |(unfold one?;rw[e];exact hK)
  |exact fin_f hK e
theorem coCmpS(x y:ByteArray){K:KT}(hK:K (.v (.int .i64 (cmpB x y))) []):ACall Tryz.prog 52 [.v (.string x),.v (.string y)] [] K:=by
 refine ofoCmpS rfl rfl ?_
 (repeat' ((conv=>whnf);first|(with_reducible refine coNaNS _ ?_)|refine zG ?_|apply zA|(apply zI;intro h)|exact zT));(all_goals conv=>whnf)
 all_goals
  unfold cmpB ltS at hK
  first
   |(rw[if_pos zw]at hK;exact hK)
   |(rename_i h0
     simp only[Bool.or_eq_false_iff]at h
     rw[if_neg (by rw[h0];decide),if_pos (bl_total _ _ h.1 h.2)]at hK
     exact hK)
   |(rename_i h0
     rw[h0,Bool.false_or]at h
     have e:x=y:=sEq_iff.1 h
     subst e
     rw[if_neg (by rw[h0];decide),if_neg (by rw[h0];decide)]at hK
     exact hK)
   |trace_state
theorem mapS_nil:mapS (fun _=>none)=fun _=>none:=by
 funext v
 cases v<;>rfl
theorem coAt1(x y:Insp){K:KT}(hK:K (.v (.int .i64 (cmpB x.cls y.cls))) []):ACall Tryz.prog 51 [encIn x,encIn y] [] K:=by
 refine ofoAt1 rfl rfl ?_
 (repeat' ((conv=>whnf);first|(with_reducible refine coCmpS _ _ ?_)|refine zG ?_|apply zA|(apply zI;intro h)|exact zT));(all_goals conv=>whnf)
 exact hK
structure AtL (t:Tp) (i:Nt) (m:Int) (k:Nat) (fl:Bool) (rest:List Bx) (p:Pol) (g:ByteArray->Option (List Bx)):Prop where
 kn:k<=(ordP i m).length
 eq:atGo t i (ordP i m) (realP t).1 zPol=atGo t i ((ordP i m).drop k) rest p
 mp:MapR g p.insp
 rs:setB rest=true
 al:setB p.allow=true
 z:fl=true->p.allow=[]
 few:p.insp.length<=k
theorem coAt(t:Tp)(ht:t.edges.length<1000)(hd:t.devs.length<1000)(i:Nt)(hb:Bnd i)(hs:i.sts.length<=12)(m:Int){K:KT}(hK:K (.tup [encPol (atV t i m).1,.v (.int .i64 (atV t i m).2)]) []):
  ACall Tryz.prog 12 [encT t,encNt i,.v (.int .i64 m)] [] K:=by
 have hKz:∀e:Int,atV t i m=(zPol,e)->∃y,Weak (.tup [.agg [.nils,.nils],.v (.int .i64 e)]) y/\K y []:=fun e he=>by
  rw[he]at hK
  exact⟨_,Weak.tup2 (Weak.agg (ys:=[.lst [],.lst []]) ⟨Weak.nils,Weak.nils,trivial⟩) Weak.refl,hK⟩
 refine ACall.weak (ofoAt rfl rfl ?_)
 by_cases hp:preV t i m=0
 case neg=>
  have hz:atV t i m=(zPol,preV t i m):=by rw[atV,if_pos hp]
  (repeat' ((conv=>whnf);first|(with_reducible refine coChk t ht hd i hb m ?_)|refine zG ?_|apply zA|(apply zI;intro h)|exact zT));(all_goals conv=>whnf)
  all_goals first
   |exact hKz _ hz
   |exact absurd zw hp
   |trace_state
 have hv:atV t i m=atP t i m:=by rw[atV,if_neg zo]
 have hpp:=hp
 unfold preV at hpp
 have hcn:compB t=true/\ntB i=true:=Decidable.byContradiction fun h=>by rw[if_neg h]at hpp;cases hpp
 rw[if_pos hcn]at hpp
 have hmm:0<=m/\m<10080:=Decidable.byContradiction fun h=>by rw[if_neg h]at hpp;cases hpp
 rw[if_pos hmm]at hpp
 have hord:ordV i m=ordP i m:=by rw[ordV,if_pos ⟨hcn.2,hmm⟩]
 have hchk:∀{K:KT},K (.v (.int .i64 0)) []->ACall Tryz.prog 46 [encT t,encNt i,.v (.int .i64 m)] [] K:=fun h=>coChk t ht hd i hb m (by rw[hp];exact h)
 have hoc:∀{K:KT},K (.lst ((ordP i m).map vN)) []->ACall Tryz.prog 37 [encNt i,.v (.int .i64 m)] [] K:=fun h=>coOrd i hb hs m (by rw[hord];exact h)
 unfold atP at hv
 (repeat' ((conv=>whnf);first|(with_reducible first|refine hchk ?_|refine coReal t ht hcn.1 ?_|refine hoc ?_)|refine zG ?_|apply zA|(apply zI;intro h)|exact zT));(all_goals conv=>whnf)
 all_goals first
  |(rw[if_pos zw]at hv;exact hKz _ hv)
  |skip
 rw[if_neg (by simpa using(by assumption:(realP t).2=0))]at hv
 have hrs:setB (realP t).1=true:=by
  unfold realP
  split
  ·exact setB_nil
  ·exact setB_combP ..
 refine Lp.intro (Nat×Bool×List Bx×Pol×(Value->Option AV)) (fun q=>⟨5,[(0,boxT t),(1,boxNt i),(2,.box [.nils,.nils]),(3,.box [encXs q.2.2.1,celA q.2.1 q.2.2.2.1.allow,.mp 4]),(4,.map q.2.2.2.2)],[(3,.op 0 0),(4,.op 1 0),(6,.op 2 0),(11,.op 3 0),(42,.lst ((ordP i m).map vN)),(43,.v (.int .i64 (((ordP i m).map vN).length:Nat))),(44,.v (.int .i64 q.1))]⟩)
  (fun q=>∃g,q.2.2.2.2=mapS g/\AtL t i m q.1 q.2.1 q.2.2.1 q.2.2.2.1 g) (fun q=>(ordP i m).length-q.1) (0,true,(realP t).1,zPol,fun _=>none) ⟨fun _=>none,mapS_nil.symm,Nat.zero_le _,by simp,mapR_nil,hrs,setB_nil,fun _=>rfl,Nat.le_refl _⟩ ?_ ?_
 ·(exact leA)
 rintro⟨k,fl,rest,p,F⟩ ⟨g,hF,hg⟩
 simp only at hF hg⊢
 subst hF
 have hkn:=hg.kn
 have hol:(ordP i m).length<=12:=Nat.le_trans (ordP_len (nt_pri hcn.2)) hs
 rcases Nat.lt_or_ge k (ordP i m).length with hkl|hkl
 ·obtain⟨n,hn⟩:∃n,(ordP i m)[k]? =some n:=⟨_,List.getElem?_eq_getElem hkl⟩
  have hnl:=ordF_lt (List.mem_of_getElem? hn)
  obtain⟨x,hx⟩:=gex hnl
  have hdr:(ordP i m).drop k=n::(ordP i m).drop (k+1):=by
   rw[List.getElem?_eq_getElem hkl]at hn
   rw[<-Option.some.inj hn,<-List.drop_eq_getElem_cons hkl]
  have hse:=chk_stm hpp x (List.mem_of_getElem? hx)
  have hsv:stmV t i (n:Int)=((stmP t i x).1,0):=by
   rw[stmV,if_pos hcn,if_neg zo,Int.toNat_natCast,hx]
   exact Prod.ext rfl hse
  have hst:∀{K:KT},K (.tup [encXs (stmP t i x).1,.v (.int .i64 0)]) []->ACall Tryz.prog 48 [encT t,encNt i,.v (.int .i64 n)] [] K:=fun h=>
   crStatement t zo i hb n (by rw[hsv];exact h)
  obtain⟨s1,s2⟩:=try_step (r:=(ordP i m).drop (k+1)) hx (rest:=rest) hg.mp
  rw[<-hdr,<-hg.eq]at s1 s2
  have htry:=fun {K} h=>@coTry fl g rest p.allow x (stmP t i x).1 hg.z hg.rs hg.al (stmP_set t i x) hg.mp.set K h
  generalize hq:tryP g rest p.allow x (stmP t i x).1=q at*
  obtain⟨e,rest',allow',g'⟩:=q
  simp only at s1 s2 htry
  have hnext:∀fl':Bool,(fl'=true->allow'=[])->e=0->∃l,AtL t i m (k+1) fl' rest' ⟨allow',l⟩ g':=by
   intro fl' hf he
   obtain⟨l,q1,q2,q3,q4,q5⟩:=s2 he hg.rs hg.al
   exact⟨l,hkl,q1,q3,q4,q5,hf,by have:=hg.few;simp only;omega⟩
  have hend:e≠0->atV t i m=(zPol,e):=fun he=>hv.trans (s1 he)
  clear s1 s2 hv
  cases fl
  all_goals
   (repeat' ((conv=>whnf);first|(with_reducible first|refine in_map hkl ?_|refine ix_map hn ?_|refine hst ?_|refine in_map hnl ?_|refine ix_map hx ?_|refine htry fun fl' hfl'=>?_)|refine zG ?_|apply zA|(apply zI;intro h)|exact zT));(all_goals conv=>whnf)
   have hnx:=hnext fl' hfl'
   clear htry hst hnext
   cases fl'
   all_goals
    (repeat' ((conv=>whnf);first|refine zG ?_|apply zA|(apply zI;intro h)|exact zT));(all_goals conv=>whnf)
    all_goals first
     |exact hKz _ (hend zw)
     |(obtain⟨l,hl⟩:=hnx zw
       refine⟨(k+1,_,rest',⟨allow',l⟩,mapS g'),⟨g',rfl,hl⟩,by simp only;omega,?_⟩
       simp only[Int.natCast_add,Int.natCast_one]
       (exact leA)
       done)
     |trace_state
 ·have hke:(ordP i m).drop k=[]:=List.drop_eq_nil_of_le hkl
  have hpe:atV t i m=(p,0):=by rw[hv,hg.eq,hke,atGo]
  have hfew:p.insp.length<=12:=by
   have:=hg.few;omega
  have hmp:=hg.mp
  have hz:=hg.z
  clear hg hv
  cases fl with
  |false=>
   (repeat' ((conv=>whnf);first|(with_reducible refine Vm.Rg.mk fun τ L hn hm=>?_)|refine zG ?_|apply zA|(apply zI;intro h)|exact zT));(all_goals conv=>whnf)
   have hm':∀k,k∈L↔∃s,g k=some s:=fun k=>by
    rw[hm k]
    simp only[mapS,Option.map_eq_some_iff]
    exact⟨fun⟨_,s,h,_⟩=>⟨s,h⟩,fun⟨s,h⟩=>⟨_,s,h,rfl⟩⟩
   refine Lp.intro (List ByteArray×Option ByteArray×List Insp) (fun q=>⟨5,[(0,.box [.nils,.nils]),(1,.box [encXs p.allow,.os 2 2 0 q.2.2.length]),(2,.arr 2 (q.2.2.map encIn)),(3,.spc (.mt (mapS g) τ)),(4,.spc (.it (some 3) τ q.1 q.2.1))],[(6,.op 0 0),(17,.op 1 0),(75,.mp 3),(76,.op 4 0)]⟩)
    (fun q=>(q.2.2++outL g q.1).Perm p.insp) (fun q=>q.1.length) (L,none,[]) (by simpa using out_perm hmp hn hm') ?_ ?_
   ·(exact leA)
   rintro⟨L',last,C⟩ hC
   simp only at hC⊢
   have hCl:C.length<=12:=by
    have:=hC.length_eq
    rw[List.length_append]at this
    omega
   (conv=>whnf)
   refine Nx.mk rfl (fun hL0=>?_) (fun l1 k1 l2 y hL1 hy=>?_)
   ·subst hL0
    have hC:C.Perm p.insp:=by simpa[outL]using hC
    have hso:∀{K:KT},K (.tup []) [.arr 2 (p.insp.map encIn)]->ACall Tryz.prog 50 [.os 0 2 0 C.length,.fn (.func 51) [] []] [.arr 2 (C.map encIn)] K:=fun h=>
     coSortI _ (fun x y=>cmpB x.cls y.cls) C hCl (fun x y _ _ K h=>coAt1 x y h) (by rw[insp_sort hC hmp.od];exact h)
    rw[hpe]at hK
    have hfl:(p.insp.map encIn).length=C.length:=by rw[List.length_map,hC.length_eq]
    (repeat' ((conv=>whnf);first|(with_reducible first|refine hso ?_|refine sl_full hfl ?_)|refine zG ?_|apply zA|(apply zI;intro h)|exact zT));(all_goals conv=>whnf)
    exact⟨_,Weak.refl,hK⟩
   ·obtain⟨s,hs1,rfl⟩:∃s,g k1=some s/\y=encXs s:=by
     simp only[mapS,Option.map_eq_some_iff]at hy
     obtain⟨s,h1,h2⟩:=hy
     exact⟨s,h1,h2.symm⟩
    have hC1:(C++outL g (l1++k1::l2)).Perm p.insp:=by rw[<-hL1];exact hC
    have hmid:((C++outK g k1)++outL g (l1++l2)).Perm p.insp:=(outL_mid g C l1 k1 l2).symm.trans hC1
    have hok:outK g k1=if s=[]then []else [⟨k1,s⟩]:=by simp[outK,hs1]
    have hlt:(l1++l2).length<L'.length:=by rw[hL1];simp
    (repeat' ((conv=>whnf);first|(with_reducible refine En.mk rfl ⟨_,hy,?_⟩)|refine zG ?_|apply zA|(apply zI;intro h)|exact zT));(all_goals conv=>whnf)
    all_goals first
     |(have hs0:s≠[]:=fun e=>by
        rw[e,List.map_nil,List.length_nil]at h
        omega
       have hmid:=hmid
       rw[hok,if_neg hs0]at hmid
       refine⟨(l1++l2,some k1,C++[⟨k1,s⟩]),hmid,hlt,?_⟩
       simp only[List.map_append,List.length_append,List.map_cons,List.map_nil,List.length_cons,List.length_nil]
       (exact leA)
       done)
     |(have hs0:s=[]:=List.length_eq_zero_iff.1 (by simp only[List.length_map]at*;omega)
       have hmid:=hmid
       rw[hok,if_pos hs0,List.append_nil]at hmid
       refine⟨(l1++l2,some k1,C),hmid,hlt,?_⟩
       (exact leA)
       done)
     |trace_state
  |true=>
   (repeat' ((conv=>whnf);first|(with_reducible refine Vm.Rg.mk fun τ L hn hm=>?_)|refine zG ?_|apply zA|(apply zI;intro h)|exact zT));(all_goals conv=>whnf)
   have hm':∀k,k∈L↔∃s,g k=some s:=fun k=>by
    rw[hm k]
    simp only[mapS,Option.map_eq_some_iff]
    exact⟨fun⟨_,s,h,_⟩=>⟨s,h⟩,fun⟨s,h⟩=>⟨_,s,h,rfl⟩⟩
   refine Lp.intro (List ByteArray×Option ByteArray×List Insp) (fun q=>⟨5,[(0,.box [.nils,.nils]),(1,.box [.nils,.os 2 2 0 q.2.2.length]),(2,.arr 2 (q.2.2.map encIn)),(3,.spc (.mt (mapS g) τ)),(4,.spc (.it (some 3) τ q.1 q.2.1))],[(6,.op 0 0),(17,.op 1 0),(75,.mp 3),(76,.op 4 0)]⟩)
    (fun q=>(q.2.2++outL g q.1).Perm p.insp) (fun q=>q.1.length) (L,none,[]) (by simpa using out_perm hmp hn hm') ?_ ?_
   ·(exact leA)
   rintro⟨L',last,C⟩ hC
   simp only at hC⊢
   have hCl:C.length<=12:=by
    have:=hC.length_eq
    rw[List.length_append]at this
    omega
   (conv=>whnf)
   refine Nx.mk rfl (fun hL0=>?_) (fun l1 k1 l2 y hL1 hy=>?_)
   ·subst hL0
    have hC:C.Perm p.insp:=by simpa[outL]using hC
    have hso:∀{K:KT},K (.tup []) [.arr 2 (p.insp.map encIn)]->ACall Tryz.prog 50 [.os 0 2 0 C.length,.fn (.func 51) [] []] [.arr 2 (C.map encIn)] K:=fun h=>
     coSortI _ (fun x y=>cmpB x.cls y.cls) C hCl (fun x y _ _ K h=>coAt1 x y h) (by rw[insp_sort hC hmp.od];exact h)
    rw[hpe]at hK
    have hfl:(p.insp.map encIn).length=C.length:=by rw[List.length_map,hC.length_eq]
    (repeat' ((conv=>whnf);first|(with_reducible first|refine hso ?_|refine sl_full hfl ?_)|refine zG ?_|apply zA|(apply zI;intro h)|exact zT));(all_goals conv=>whnf)
    refine⟨.tup [encPol p,.v (.int .i64 0)],Weak.tup2 (Weak.agg ⟨by rw[hz rfl];exact Weak.nils,Weak.refl,trivial⟩) Weak.refl,hK⟩
   ·obtain⟨s,hs1,rfl⟩:∃s,g k1=some s/\y=encXs s:=by
     simp only[mapS,Option.map_eq_some_iff]at hy
     obtain⟨s,h1,h2⟩:=hy
     exact⟨s,h1,h2.symm⟩
    have hC1:(C++outL g (l1++k1::l2)).Perm p.insp:=by rw[<-hL1];exact hC
    have hmid:((C++outK g k1)++outL g (l1++l2)).Perm p.insp:=(outL_mid g C l1 k1 l2).symm.trans hC1
    have hok:outK g k1=if s=[]then []else [⟨k1,s⟩]:=by simp[outK,hs1]
    have hlt:(l1++l2).length<L'.length:=by rw[hL1];simp
    (repeat' ((conv=>whnf);first|(with_reducible refine En.mk rfl ⟨_,hy,?_⟩)|refine zG ?_|apply zA|(apply zI;intro h)|exact zT));(all_goals conv=>whnf)
    all_goals first
     |(have hs0:s≠[]:=fun e=>by
        rw[e,List.map_nil,List.length_nil]at h
        omega
       have hmid:=hmid
       rw[hok,if_neg hs0]at hmid
       refine⟨(l1++l2,some k1,C++[⟨k1,s⟩]),hmid,hlt,?_⟩
       simp only[List.map_append,List.length_append,List.map_cons,List.map_nil,List.length_cons,List.length_nil]
       (exact leA)
       done)
     |(have hs0:s=[]:=List.length_eq_zero_iff.1 (by simp only[List.length_map]at*;omega)
       have hmid:=hmid
       rw[hok,if_pos hs0,List.append_nil]at hmid
       refine⟨(l1++l2,some k1,C),hmid,hlt,?_⟩
       (exact leA)
       done)
     |trace_state
def eS:ByteArray:=⟨#[]⟩
def sshS:ByteArray:=⟨#[115,115,104]⟩
def qsnA:Sm:=⟨true,eS,eS,eS,false,eS,eS,eS,eS,0⟩
def qsnB:Sm:=⟨false,eS,eS,sshS,false,eS,eS,eS,eS,1⟩
def qsnN:Nt:=⟨[],[⟨sshS,[⟨4,eS,⟨0,0,by decide,by decide⟩,6,⟨22,22,by decide,by decide,by decide,by decide⟩⟩]⟩],[],[qsnA,qsnB],[],[]⟩
def qsnH:Hd:=⟨167772161,2886729729,6,1,22⟩
def qsnK:Hd:=⟨167772161,2886729729,6,1,23⟩
theorem qsnH_ok:qsnH.Ok:=⟨by decide,by decide,by decide,by decide,by decide,by decide,by decide,by decide,by decide,by decide⟩
theorem qsnK_ok:qsnK.Ok:=⟨by decide,by decide,by decide,by decide,by decide,by decide,by decide,by decide,by decide,by decide⟩
theorem eS_opt:optB eS=true:=by
 unfold optB
 rw[show sEq eS ⟨#[]⟩=true from sEq_iff.2 rfl];rfl
theorem ssh_opt:optB sshS=true:=by
 unfold optB
 rw[show nameB sshS=true from nameB_true (nameOk_data zd)];simp
theorem sEq_e:sEq eS ⟨#[]⟩=true:=sEq_iff.2 rfl
theorem qsnN_ok:NtOk qsnN:=by
 refine⟨dfsC_ok (by decide+kernel),dfsC_ok (by decide+kernel),by decide,by decide,by decide,by decide,fun k x h=>by simp[qsnN]at h,fun x hx=>?_,fun x h=>by simp[qsnN]at h,fun x h=>by simp[qsnN]at h⟩
 simp only[qsnN,List.mem_cons,List.not_mem_nil,or_false]at hx
 rcases hx with rfl|rfl
 ·simp only[smB,qsnA,eS_opt,sEq_e];decide
 ·simp only[smB,qsnB,eS_opt,ssh_opt,sEq_e];decide
theorem qsnN_bnd:Bnd qsnN:=by
 refine⟨by decide,by decide,by decide,by decide,by decide,by decide,fun x h=>by simp[qsnN]at h,fun x h=>?_,fun x h=>by simp[qsnN]at h,by decide,by decide⟩
 simp only[qsnN,List.mem_cons,List.not_mem_nil,or_false]at h
 subst h
 decide
theorem qsn_grp:grpP netR qsnN eS=([pf0.rg,pf4.rg],0):=by
 have e:grpE netR qsnN.grps eS=(0,[pf0.rg,pf4.rg]):=by rw[grpE,if_pos sEq_e];rfl
 have hc:Canon [pf0.rg,pf4.rg]:=⟨fun r hr=>by
  simp only[List.mem_cons,List.not_mem_nil,or_false]at hr
  rcases hr with rfl|rfl<;>decide,by
  refine List.pairwise_cons.2 ⟨fun s hs=>?_,List.pairwise_singleton ..⟩
  rw[List.mem_singleton.1 hs];decide⟩
 rw[grpP,e,if_pos rfl,canO_eq hc fun v=>rfl]
def qsnS(nm:ByteArray):List Bx×Int:=bindE (svcP qsnN nm) fun v=>bindE (makeP (btwB [pf0.rg,pf4.rg] [pf0.rg,pf4.rg])) fun b=>combP anB b v
theorem qsn_stm(x:Sm)(h1:x.frm=eS)(h2:x.to=eS)(h3:x.exc=false):stmP netR qsnN x=qsnS x.svc:=by
 unfold stmP qsnS
 rw[h1,h2,h3,qsn_grp]
 rw[bindE_ok rfl,bindE_ok rfl]
 simp only[Bool.false_eq_true,if_false]
 congr 1
 funext v
 rw[bindE_ok rfl,bindE_ok rfl]
 congr 1
 funext b
 simp
def qsnR:List Bx:=(realP netR).1
def qsnX:List Bx:=(qsnS sshS).1
def qsnY:List Bx:=(qsnS eS).1
def qsnW:List Bx:=(combP woB qsnR qsnX).1
def qsnP:List Bx:=(combP orB [] (combP anB qsnW qsnY).1).1
theorem qsn_real:(realP netR).2=0:=by decide+kernel
theorem qsn_x:(qsnS sshS).2=0:=by decide+kernel
theorem qsn_y:(qsnS eS).2=0:=by decide+kernel
theorem qsn_1:(combP anB qsnR qsnX).2=0:=by decide+kernel
theorem qsn_2:(combP woB qsnR qsnX).2=0:=by decide+kernel
theorem qsn_3:(combP anB qsnW qsnY).2=0:=by decide+kernel
theorem qsn_4:(combP woB qsnW qsnY).2=0:=by decide+kernel
theorem qsn_5:(combP orB [] (combP anB qsnW qsnY).1).2=0:=by decide+kernel
theorem qsn_h:(qsnP.any fun b=>conB b qsnH)=false:=by decide+kernel
theorem qsn_k:(qsnP.any fun b=>conB b qsnK)=true:=by decide+kernel
theorem qsn_xh:(qsnX.any fun b=>conB b qsnH)=true:=by decide+kernel
theorem qsn_re:realH netR qsnH=true:=by decide+kernel
theorem qsn_ord:ordP qsnN 0=[1,0]:=by decide+kernel
theorem qsn_b:stmP netR qsnN qsnB=qsnS sshS:=qsn_stm qsnB rfl rfl rfl
theorem qsn_a:stmP netR qsnN qsnA=qsnS eS:=qsn_stm qsnA rfl rfl rfl
theorem qsnN_chk:chkP netR qsnN=0:=by
 have n1:namE netR qsnN qsnA=0:=by decide+kernel
 have n2:namE netR qsnN qsnB=0:=by decide+kernel
 have e1:fstE (fun d:Df=>(grpP netR qsnN d.name).2) qsnN.grps=0:=rfl
 have e2:fstE (fun d:Df=>(svcP qsnN d.name).2) qsnN.svcs=0:=by decide+kernel
 have e3:fstE (fun s:Sm=>if(stmP netR qsnN s).2≠0 then(stmP netR qsnN s).2 else namE netR qsnN s) qsnN.sts=0:=by
  show fstE (fun s:Sm=>if(stmP netR qsnN s).2≠0 then(stmP netR qsnN s).2 else namE netR qsnN s) [qsnA,qsnB]=0
  rw[fstE_cons,if_neg (by rw[qsn_a,qsn_y,n1];simp),fstE_cons,if_neg (by rw[qsn_b,qsn_x,n2];simp)]
  rfl
 rw[chkP_eq,e1,if_neg zx,e2,if_neg zx,e3,if_neg zx]
 rfl
theorem qsnN_pre:preV netR qsnN 0=0:=by
 rw[preV,if_pos ⟨comp_netR,ntB_true qsnN_ok⟩,if_pos zd,qsnN_chk]
theorem qsnN_at:atP netR qsnN 0=(⟨qsnP,[]⟩,0):=by
 have p1:putP [] qsnA.cls (combP anB qsnW qsnY).1=([],0):=by rw[putP,if_pos (.inl sEq_e)]
 rw[atP,if_neg (by rw[qsn_real];simp),qsn_ord,atGo]
 simp only[show qsnN.sts[1]? =some qsnB from rfl,qsn_b]
 rw[if_neg (by rw[show(combP anB (realP netR).1 (qsnS sshS).1).2=0 from qsn_1];simp),if_neg (by rw[show(combP woB (realP netR).1 (qsnS sshS).1).2=0 from qsn_2];simp),if_pos (show qsnB.permit=false from rfl),atGo]
 simp only[show qsnN.sts[0]? =some qsnA from rfl,qsn_a]
 rw[if_neg (by rw[show(combP anB (combP woB (realP netR).1 (qsnS sshS).1).1 (qsnS eS).1).2=0 from qsn_3];simp),if_neg (by rw[show(combP woB (combP woB (realP netR).1 (qsnS sshS).1).1 (qsnS eS).1).2=0 from qsn_4];simp),if_neg zd]
 rw[if_neg (by rw[show(combP orB zPol.allow (combP anB (combP woB (realP netR).1 (qsnS sshS).1).1 (qsnS eS).1).1).2=0 from qsn_5];simp)]
 rw[show putP zPol.insp qsnA.cls (combP anB (combP woB (realP netR).1 (qsnS sshS).1).1 (qsnS eS).1).1=([],0)from p1]
 rfl
theorem qsnN_atV:atV netR qsnN 0=(⟨qsnP,[]⟩,0):=by rw[atV,if_neg (by rw[qsnN_pre];simp),qsnN_at]
theorem qsnN_dec:decV netR qsnN 0 qsnH=(false,1):=by
 have e:(ordP qsnN 0).find? (hitN netR qsnN (hdQ qsnH))=some 1:=by
  rw[qsn_ord,List.find?_cons]
  have:hitN netR qsnN (hdQ qsnH) 1=true:=by
   rw[<-hit_con (show qsnN.sts[1]? =some qsnB from rfl) qsnH_ok,qsn_b];exact qsn_xh
  rw[this]
 rw[decV,if_neg (by rw[qsnN_pre];simp),decH,if_pos qsn_re,e]
 rfl
theorem qsnN_pol:PolOk netR ⟨qsnP,[]⟩:=by
 have:=atP_ok (m:=0) comp_netR (ntB_true qsnN_ok) (by rw[qsnN_at])
 rwa[qsnN_at]at this
theorem coLNet{K:KT}(hK:K (encT netR) []):ACall Tryz.prog 41 [] [] K:=by
 refine ACall.weak (ofoLNet rfl rfl ?_)
 (repeat' ((conv=>whnf);first|(refine cwSub0 ?_)|(refine cwSub4 ?_)|refine zG ?_|apply zA|(apply zI;intro h)|exact zT));(all_goals conv=>whnf)
 exact⟨encT netR,Weak.agg (ys:=[_,.lst [],_,.lst [],_]) ⟨Weak.refl,Weak.nils,Weak.refl,Weak.nils,Weak.refl,trivial⟩,hK⟩
theorem coSan{K:KT}(hK:K (.sb true) []):ACall Tryz.prog 19 [] [] K:=by
 have sat:∀{K:KT},K (.tup [encPol ⟨qsnP,[]⟩,.v (.int .i64 0)]) []->ACall Tryz.prog 12 [encT netR,encNt qsnN,.v (.int .i64 0)] [] K:=fun h=>coAt netR zd zd qsnN qsnN_bnd zd 0 (by rw[qsnN_atV];exact h)
 have sdc:∀{K:KT},K (.tup [.sb false,.v (.int .i64 1)]) []->ACall Tryz.prog 21 [encT netR,encNt qsnN,.v (.int .i64 0),encHd qsnH] [] K:=fun h=>coDec netR zd zd qsnN qsnN_bnd zd 0 qsnH qsnH_ok (by rw[qsnN_dec];exact h)
 have sc1:∀{K:KT},K (.sb false) []->ACall Tryz.prog 22 [encXs qsnP,encHd qsnH] [] K:=fun h=>eyCont qsnP qsnH qsnH_ok (setBlen (setB_combP ..)) (by rw[qsn_h];exact h)
 have sc2:∀{K:KT},K (.sb true) []->ACall Tryz.prog 22 [encXs qsnP,encHd qsnK] [] K:=fun h=>eyCont qsnP qsnK qsnK_ok (setBlen (setB_combP ..)) (by rw[qsn_k];exact h)
 have svl:∀{K:KT},K (.sb true) []->ACall Tryz.prog 23 [encT netR,encPol ⟨qsnP,[]⟩] [] K:=fun h=>cyVal netR ⟨qsnP,[]⟩ zd (setBlen (setB_combP ..)) zd (fun x hx=>by simp at hx) (by rw[polB_true qsnN_pol];exact h)
 have sod:∀{K:KT},K (.lst ([1,0].map vN)) []->ACall Tryz.prog 37 [encNt qsnN,.v (.int .i64 0)] [] K:=fun h=>coOrd qsnN qsnN_bnd zd 0 (by rw[ordV,if_pos ⟨ntB_true qsnN_ok,by decide⟩,qsn_ord];exact h)
 refine ACall.bool (ofoSan rfl rfl ?_)
 (repeat' ((conv=>whnf);first|(with_reducible refine coLNet ?_)|(refine sat ?_)|(refine sdc ?_)|(refine sc1 ?_)|(refine sc2 ?_)|(refine svl ?_)|(refine sod ?_)|(refine in_c zd ?_)|(refine Ix.intro rfl ?_)|refine zG ?_|apply zA|(apply zI;intro h)|exact zT));(all_goals conv=>whnf)
 all_goals first
  |exact fin_s hK rfl
  |exact fin_t hK rfl
  |exact absurd rfl h
  |trace_state
theorem cPolPoints(raw:List Int)(h0:Hd)(hr:raw.length<=9223372036854775807)(ho:h0.Ok):ACall Tryz.prog 4 [.lst (raw.map encI),encHd h0] [] Yes:=by
 have h4:∀{pos:Nat} {K:KT} (hp:pos<=raw.length),(∀(t:Tp) (i:Nt) (m:Int) (pos':Nat),GTop t->t.devs.length<=3->ENt i->0<=m->m<10080->pos'<=raw.length->K (.tup [encT t,encNt i,.v (.int .i64 m)]) [tapeO raw pos'])->
  ACall Tryz.prog 11 [.op 0 0,.v (.int .i64 3),.v (.int .i64 4)] [tapeO raw pos] K:=fun hp h=>coNet 4 zd raw _ hp hr h
 refine ofoPoi rfl rfl ?_
 (repeat' ((conv=>whnf);first|(with_reducible first|refine c9 raw ?_|refine h4 (Nat.zero_le _) fun t i m p1 ht htd hi m0 m1 hp1=>?_)|refine zG ?_|apply zA|(apply zI;intro h)|exact zT));(all_goals conv=>whnf)
 have hb:=bnd_ent hi
 have hc:=comp_top ht
 have hnt:=ntB_true hi.ok
 have he5:=ht.e5
 have hs4:=hi.t3
 obtain⟨hE,hZ⟩:=err_atV hc hnt m0 m1
 have hat:∀{K:KT},K (.tup [encPol (atV t i m).1,.v (.int .i64 (atV t i m).2)]) []->ACall Tryz.prog 12 [encT t,encNt i,.v (.int .i64 m)] [] K:=fun h=>coAt t zo zo i hb zo m h
 by_cases he:(atV t i m).2=0
 case neg=>
  have hz:=hZ he
  rw[hz]at hat
  (repeat' ((conv=>whnf);first|(with_reducible first|refine hat ?_|refine coSan ?_)|refine zG ?_|apply zA|(apply zI;intro h)|exact zT));(all_goals conv=>whnf)
  all_goals first
   |exact .inl rfl
   |exact .inr rfl
   |(exfalso;simp[zPol]at h;done)
   |(exfalso;unfold ErrL at hE;rcases hE with hE|hE|hE|hE<;>omega)
   |trace_state
 obtain⟨hpre,hav,hae⟩:=atV_ok he
 have hlaw:=fun(h:Hd) (ho:h.Ok)=>pt_law ht (i:=i) (m:=m) hnt hpre hae ho
 have hpol:=atP_ok (m:=m) hc hnt hae
 have hmp:(atP t i m).1.insp.length<=12:=by have:=atP_few (t:=t) (m:=m) hnt;omega
 rw[hav]at hat he
 rw[he]at hat
 clear hE hZ hav hae he
 generalize (atP t i m).1=p at*
 have hpl:=(setB_pset hpol.set).len
 have hsl:∀x,x∈p.insp->x.set.length<1000000000:=fun x hx=>by
  obtain⟨n,hn⟩:=List.mem_iff_getElem?.1 hx
  exact setBlen (hpol.insp n x hn).set
 have hnear:∀(l:List Bx) {pos:Nat} {K:KT} (hl:l.length<=4096) (hp:pos<=raw.length),(∀(g:Hd) (pos':Nat),g.Ok->pos'<=raw.length->K (encHd g) [tapeO raw pos'])->
  ACall Tryz.prog 20 [.op 0 0,encT t,encXs l] [tapeO raw pos] K:=fun l _ _ hl hp h=>coNear raw _ t l zo zo hp hr h
 have hnear0:∀{pos:Nat} {K:KT} (hp:pos<=raw.length),(∀(g:Hd) (pos':Nat),g.Ok->pos'<=raw.length->K (encHd g) [tapeO raw pos'])->
  ACall Tryz.prog 20 [.op 0 0,encT t,.nils] [tapeO raw pos] K:=fun hp h=>ACall.nil3 (hnear [] zx hp h)
 (repeat' ((conv=>whnf);first|(with_reducible first|refine hat ?_|refine hnear p.allow hpl zw fun g p2 hg hp2=>?_|refine hnear0 zw fun g p2 hg hp2=>?_)|refine zG ?_|apply zA|(apply zI;intro h)|exact zT));(all_goals conv=>whnf)
 rename_i ga _ hga _ gb _ hgb _
 have hall:∀x,x∈[h0,ga,gb,g]->x.Ok:=fun x hx=>by
  simp only[List.mem_cons,List.not_mem_nil,or_false]at hx
  rcases hx with rfl|rfl|rfl|rfl<;>assumption
 obtain⟨H,hH,hHl⟩:∃H,H=[h0,ga,gb,g]/\H.length=4:=⟨_,rfl,rfl⟩
 refine Lp.intro Nat (fun k=>⟨4,[(0,boxT t),(1,boxNt i),(2,boxPol p),(3,.arr 5 (H.map encHd))],[(6,.op 0 0),(7,.op 1 0),(8,.v (.int .i64 m)),(9,.op 2 0),(11,.os 3 5 0 4),(12,.v (.int .i64 k))]⟩) (fun k=>k<=4) (fun k=>4-k) 0 (Nat.zero_le _) ?_ ?_
 ·rw[hH]
  (exact leA)
 rw[<-hH]at hall
 clear hH hnear hnear0 hat hga hgb hg ga gb g
 intro k hk
 rcases Nat.lt_or_ge k 4 with hkl|hkl
 ·obtain⟨g,hg⟩:∃g,H[0+k]? =some g:=⟨_,List.getElem?_eq_getElem zo⟩
  have hgo:=hall g (List.mem_of_getElem? hg)
  have f:=hlaw g hgo
  have hdec:∀{K:KT},K (.tup [.sb (decV t i m g).1,.v (.int .i64 (decV t i m g).2)]) []->ACall Tryz.prog 21 [encT t,encNt i,.v (.int .i64 m),encHd g] [] K:=fun h=>coDec t zo zo i hb zo m g hgo h
  have hcon:∀{K:KT},K (.sb (decV t i m g).1) []->ACall Tryz.prog 22 [encXs p.allow,encHd g] [] K:=fun h=>eyCont p.allow g hgo zo (by rw[f.allow];exact h)
  have hci:∀y,y∈p.insp->∀{K:KT},K (.sb ((decV t i m g).1&&sEq (clsN i (decV t i m g).2.toNat) y.cls)) []->ACall Tryz.prog 22 [encXs y.set,encHd g] [] K:=fun y hy K h=>eyCont y.set g hgo (hsl y hy) (by rw[f.insp y hy];exact h)
  generalize decV t i m g=d at*
  obtain⟨ok,s⟩:=d
  simp only at f hdec hcon hci
  have flo:=f.lo
  have fhi:=f.hi
  clear hlaw hall
  cases ok with
  |false=>
   simp only[Bool.false_and]at hci
   (repeat' ((conv=>whnf);first|(with_reducible first|refine hdec ?_|refine in_nat hkl ?_|refine ix_map hg ?_|refine hcon ?_)|refine zG ?_|apply zA|(apply zI;intro h)|exact zT));(all_goals conv=>whnf)
   all_goals first
    |(exfalso;simp_all;done)
    |(exfalso;simp only[List.length_map]at*;omega)
    |skip
   refine Lp.intro Nat (fun c=>⟨4,[(0,boxT t),(1,boxNt i),(2,boxPol p),(3,.arr 5 (H.map encHd))],[(6,.op 0 0),(7,.op 1 0),(8,.v (.int .i64 m)),(9,.op 2 0),(11,.os 3 5 0 4),(12,.v (.int .i64 k)),(13,.sb false),(14,.v (.int .i64 s)),(15,.v (.int .i64 c))]⟩) (fun c=>c<=p.insp.length) (fun c=>p.insp.length-c) 0 (Nat.zero_le _) ?_ ?_
   ·(exact leA)
   intro c hc
   rcases Nat.lt_or_ge c p.insp.length with hcl|hcl
   ·obtain⟨y,hy⟩:=gex hcl
    have hcy:=fun {K} h=>@hci y (List.mem_of_getElem? hy) K h
    (repeat' ((conv=>whnf);first|(with_reducible first|refine in_nat hkl ?_|refine ix_map hg ?_|refine in_map hcl ?_|refine ix_map hy ?_|refine hcy ?_)|refine zG ?_|apply zA|(apply zI;intro h)|exact zT));(all_goals conv=>whnf)
    all_goals first
     |(exfalso;simp_all;done)
     |(refine⟨c+1,hcl,by omega,?_⟩
       rw[Int.natCast_add,Int.natCast_one]
       (exact leA)
       done)
     |trace_state
   ·(repeat' ((conv=>whnf);first|refine zG ?_|apply zA|(apply zI;intro h)|exact zT));(all_goals conv=>whnf)
    all_goals first
     |(exfalso;simp_all;done)
     |(refine⟨k+1,hkl,by omega,?_⟩
       rw[Int.natCast_add,Int.natCast_one]
       (exact leA)
       done)
     |trace_state
  |true=>
   have fpos:=f.pos rfl
   obtain⟨n,rfl⟩:=Int.eq_ofNat_of_zero_le fpos
   have hnl:n<i.sts.length:=by omega
   obtain⟨x,hx⟩:=gex hnl
   have hcx:clsN i n=x.cls:=by simp[clsN,hx]
   have ffo:=f.found rfl
   simp only[Int.toNat_natCast,hcx,Bool.true_and]at hci ffo
   (repeat' ((conv=>whnf);first|(with_reducible first|refine hdec ?_|refine in_nat hkl ?_|refine ix_map hg ?_|refine hcon ?_)|refine zG ?_|apply zA|(apply zI;intro h)|exact zT));(all_goals conv=>whnf)
   all_goals first
    |(exfalso;simp_all;done)
    |(exfalso;simp only[List.length_map]at*;omega)
    |skip
   refine Lp.intro Nat (fun c=>⟨4,[(0,boxT t),(1,boxNt i),(2,boxPol p),(3,.arr 5 (H.map encHd))],[(6,.op 0 0),(7,.op 1 0),(8,.v (.int .i64 m)),(9,.op 2 0),(11,.os 3 5 0 4),(12,.v (.int .i64 k)),(13,.sb true),(14,.v (.int .i64 n)),(15,.v (.int .i64 c))]⟩) (fun c=>c<=p.insp.length) (fun c=>p.insp.length-c) 0 (Nat.zero_le _) ?_ ?_
   ·(exact leA)
   intro c hc
   rcases Nat.lt_or_ge c p.insp.length with hcl|hcl
   ·obtain⟨y,hy⟩:=gex hcl
    have hcy:=fun {K} h=>@hci y (List.mem_of_getElem? hy) K h
    (repeat' ((conv=>whnf);first|(with_reducible first|refine in_nat hkl ?_|refine ix_map hg ?_|refine in_map hcl ?_|refine ix_map hy ?_|refine in_map hnl ?_|refine ix_map hx ?_|refine hcy ?_)|refine zG ?_|apply zA|(apply zI;intro h)|exact zT));(all_goals conv=>whnf)
    all_goals first
     |(refine⟨c+1,hcl,by omega,?_⟩
       rw[Int.natCast_add,Int.natCast_one]
       (exact leA)
       done)
     |(exfalso;unfold sEq at*;simp_all;done)
     |trace_state
   ·(repeat' ((conv=>whnf);first|(with_reducible first|refine in_map hnl ?_|refine ix_map hx ?_)|refine zG ?_|apply zA|(apply zI;intro h)|exact zT));(all_goals conv=>whnf)
    all_goals first
     |(exfalso;simp_all;done)
     |(refine⟨k+1,hkl,by omega,?_⟩
       rw[Int.natCast_add,Int.natCast_one]
       (exact leA)
       done)
     |skip
    have hcne:sEq x.cls ⟨#[]⟩=false:=by unfold sEq;simp_all
    obtain⟨z,hz,hzc⟩:=ffo hcne
    clear hci hdec hcon ffo f
    refine Lp.intro (Nat×AV×Bool) (fun q=>⟨4,[(0,boxT t),(1,boxNt i),(2,boxPol p),(3,.arr 5 (H.map encHd))],[(6,.op 0 0),(7,.op 1 0),(8,.v (.int .i64 m)),(9,.op 2 0),(11,.os 3 5 0 4),(12,.v (.int .i64 k)),(14,.v (.int .i64 n)),(16,q.2.1),(17,.v (.int .i64 q.1))]⟩)
     (fun q=>(q.2.1=.v (.bool q.2.2)\/q.2.1=.sb q.2.2)/\q.1<=p.insp.length/\∀(j:Nat) y,j<q.1->p.insp[j]? =some y->sEq y.cls x.cls=true->q.2.2=true) (fun q=>p.insp.length-q.1) (0,.v (.bool false),false) ⟨.inl rfl,Nat.zero_le _,fun j y h=>absurd h (Nat.not_lt_zero _)⟩ ?_ ?_
    ·(exact leA)
    rintro⟨c,A,fb⟩ ⟨hA,hc,hin⟩
    simp only at hA hc hin⊢
    rcases Nat.lt_or_ge c p.insp.length with hcl|hcl
    ·obtain⟨y,hy⟩:=gex hcl
     have hstep:∀b:Bool,(fb=true->b=true)->(sEq y.cls x.cls=true->b=true)->∀(j:Nat) w,j<c+1->p.insp[j]? =some w->sEq w.cls x.cls=true->b=true:=fun b h1 h2 j w hj hw he=>by
      rcases Nat.lt_or_ge j c with h|h
      ·exact h1 (hin j w h hw he)
      ·obtain rfl:j=c:=by omega
       rw[hy]at hw;cases hw;exact h2 he
     cases fb
     all_goals
      rcases hA with rfl|rfl
      all_goals
       (repeat' ((conv=>whnf);first|(with_reducible first|refine in_map hcl ?_|refine ix_map hy ?_|refine in_map hnl ?_|refine ix_map hx ?_)|refine zG ?_|apply zA|(apply zI;intro h)|exact zT));(all_goals conv=>whnf)
       all_goals first
        |(refine⟨(c+1,.sb (sEq y.cls x.cls),sEq y.cls x.cls),⟨.inr rfl,hcl,hstep _ (fun h=>by cases h) fun h=>h⟩,by simp only;omega,?_⟩
          simp only[Int.natCast_add,Int.natCast_one]
          (exact leA)
          done)
        |(refine⟨(c+1,.v (.bool true),true),⟨.inl rfl,hcl,hstep _ (fun _=>rfl) fun _=>rfl⟩,by simp only;omega,?_⟩
          simp only[Int.natCast_add,Int.natCast_one]
          (exact leA)
          done)
        |(exfalso;simp_all;done)
        |trace_state
    ·have hfb:fb=true:=by
      obtain⟨j,hj⟩:=List.mem_iff_getElem?.1 hz
      exact hin j z (by have:=(List.getElem?_eq_some_iff.1 hj).1;omega) hj hzc
     subst hfb
     rcases hA with rfl|rfl
     all_goals
      (repeat' ((conv=>whnf);first|refine zG ?_|apply zA|(apply zI;intro h)|exact zT));(all_goals conv=>whnf)
      all_goals first
       |(refine⟨k+1,hkl,by omega,?_⟩
         rw[Int.natCast_add,Int.natCast_one]
         (exact leA)
         done)
       |(exfalso;simp_all;done)
       |trace_state
 ·have hval:∀{K:KT},K (.sb true) []->ACall Tryz.prog 23 [encT t,encPol p] [] K:=fun h=>cyVal t p zo zo zo hsl (by rw[polB_true hpol];exact h)
  (repeat' ((conv=>whnf);first|(with_reducible first|refine hval ?_|refine coSan ?_)|refine zG ?_|apply zA|(apply zI;intro h)|exact zT));(all_goals conv=>whnf)
  all_goals first
   |exact .inl rfl
   |exact .inr rfl
   |(exfalso;simp_all;done)
   |trace_state
end Go.Proofs.YtbdikofefjljoaaGreatDoor
