/- The functions of the seat as the machine takes them: contexts, bodies, contracts out of the code. Printed by gsctx.py. -/
import Derived.Test.YtokmdghjgegclaaGreatDoorProg
import Derived.Test.YtokmdghjgegclaaGreatDoorM10
set_option linter.unusedVariables false
set_option linter.unusedSimpArgs false
set_option maxRecDepth 100000
set_option maxHeartbeats 4000000
namespace Go.Proofs.YtokmdghjgegclaaGreatDoor
open Go Go.Vm
noncomputable def gvWho:Ctx:={N:=32}
noncomputable def bvWho:Code:=bdy Tryz.f62
abbrev ofvWho:=@ofC Tryz.prog gvWho 62 Tryz.f62 bvWho Tryz.func62 (by kernel_rfl) (by kernel_rfl) (by kernel_rfl) (by kernel_rfl)
noncomputable def gvReal:Ctx:={N:=40,hints:=at1 2 ([.virt 5 10]) (fun _=>[])}
noncomputable def bvReal:Code:=bdy Tryz.f91
abbrev ofvReal:=@ofC Tryz.prog gvReal 91 Tryz.f91 bvReal Tryz.func91 (by kernel_rfl) (by kernel_rfl) (by kernel_rfl) (by kernel_rfl)
noncomputable def gvDisj:Ctx:={N:=34,plan:=at1 7 (some (.one 0 true (.one 1 true (.one 2 true (.one 3 true (.one 4 true (.one 5 true (.one 6 true (.one 7 true (.alt 8 (.one 9 true (.one 10 true (.one 11 true (.one 12 false (.one 13 false (.one 14 true (.done))))))) (.alt 12 (.one 8 false (.one 9 true (.one 10 true (.one 11 true (.one 13 false (.one 14 true (.done))))))) (.stop)))))))))))) (fun _=>none)}
noncomputable def bvDisj:Code:=bdy Tryz.f94
abbrev ofvDisj:=@ofC Tryz.prog gvDisj 94 Tryz.f94 bvDisj Tryz.func94 (by kernel_rfl) (by kernel_rfl) (by kernel_rfl) (by kernel_rfl)
noncomputable def gvVal:Ctx:={N:=91,plan:=at1 7 (some (ln [1,3,4,7,9,11,13,15,17,19,21,23,25,27,29,31,33,35,37,39,41,43,45,47,49,51,53,55,57,58,61,63,65,67,69,71,73,74,77,79])) (at1 12 (some (ln [1,3,5,7,9,11,13,15,16,19])) (fun _=>none)),cut:=at1 9 (true) (fun _=>false)}
noncomputable def bvVal:Code:=bdy Tryz.f45
abbrev ofvVal:=@ofC Tryz.prog gvVal 45 Tryz.f45 bvVal Tryz.func45 (by kernel_rfl) (by kernel_rfl) (by kernel_rfl) (by kernel_rfl)
noncomputable def gvPair:Ctx:={N:=46,plan:=at1 7 (some (ln [1,3,5,7,9,10,12,14,17,19,21,23])) (fun _=>none)}
noncomputable def bvPair:Code:=bdy Tryz.f24
abbrev ofvPair:=@ofC Tryz.prog gvPair 24 Tryz.f24 bvPair Tryz.func24 (by kernel_rfl) (by kernel_rfl) (by kernel_rfl) (by kernel_rfl)
noncomputable def gr3Top:Ctx:={N:=12}
noncomputable def br3Top:Code:=bdy Tryz.f66
abbrev ofr3Top:=@ofC Tryz.prog gr3Top 66 Tryz.f66 br3Top Tryz.func66 (by kernel_rfl) (by kernel_rfl) (by kernel_rfl) (by kernel_rfl)
noncomputable def gr3Full:Ctx:={N:=13}
noncomputable def br3Full:Code:=bdy Tryz.f88
abbrev ofr3Full:=@ofC Tryz.prog gr3Full 88 Tryz.f88 br3Full Tryz.func88 (by kernel_rfl) (by kernel_rfl) (by kernel_rfl) (by kernel_rfl)
noncomputable def gr3Val:Ctx:={N:=26,plan:=at1 4 (some (ln [1,3,5,7,9,11,13,15,17,19,21,23,25,27,29,30,33,35])) (fun _=>none)}
noncomputable def br3Val:Code:=bdy Tryz.f71
abbrev ofr3Val:=@ofC Tryz.prog gr3Val 71 Tryz.f71 br3Val Tryz.func71 (by kernel_rfl) (by kernel_rfl) (by kernel_rfl) (by kernel_rfl)
noncomputable def gr3Same:Ctx:={N:=26,plan:=at1 6 (some (ln [1,3,5,7,9,11,13,15,17])) (fun _=>none)}
noncomputable def br3Same:Code:=bdy Tryz.f63
abbrev ofr3Same:=@ofC Tryz.prog gr3Same 63 Tryz.f63 br3Same Tryz.func63 (by kernel_rfl) (by kernel_rfl) (by kernel_rfl) (by kernel_rfl)
noncomputable def gr4At:Ctx:={N:=45,hints:=at1 2 ([.virt 7 10]) (fun _=>[])}
noncomputable def br4At:Code:=bdy Tryz.f182
abbrev ofr4At:=@ofC Tryz.prog gr4At 182 Tryz.f182 br4At Tryz.func182 (by kernel_rfl) (by kernel_rfl) (by kernel_rfl) (by kernel_rfl)
noncomputable def gr4Rgs:Ctx:={N:=41,hints:=at1 2 ([.virt 7 2]) (fun _=>[])}
noncomputable def br4Rgs:Code:=bdy Tryz.f181
abbrev ofr4Rgs:=@ofC Tryz.prog gr4Rgs 181 Tryz.f181 br4Rgs Tryz.func181 (by kernel_rfl) (by kernel_rfl) (by kernel_rfl) (by kernel_rfl)
noncomputable def gr4Hold:Ctx:={N:=30}
noncomputable def br4Hold:Code:=bdy Tryz.f178
abbrev ofr4Hold:=@ofC Tryz.prog gr4Hold 178 Tryz.f178 br4Hold Tryz.func178 (by kernel_rfl) (by kernel_rfl) (by kernel_rfl) (by kernel_rfl)
noncomputable def gr4None:Ctx:={N:=26}
noncomputable def br4None:Code:=bdy Tryz.f179
abbrev ofr4None:=@ofC Tryz.prog gr4None 179 Tryz.f179 br4None Tryz.func179 (by kernel_rfl) (by kernel_rfl) (by kernel_rfl) (by kernel_rfl)
noncomputable def gr4Val:Ctx:={N:=24,hints:=at1 2 ([.virt 3 10]) (fun _=>[])}
noncomputable def br4Val:Code:=bdy Tryz.f136
abbrev ofr4Val:=@ofC Tryz.prog gr4Val 136 Tryz.f136 br4Val Tryz.func136 (by kernel_rfl) (by kernel_rfl) (by kernel_rfl) (by kernel_rfl)
noncomputable def gr4Rests:Ctx:={N:=140,plan:=at1 15 (some (ln [1,3,5,7,9,11,15,17,19,21,23,25,29,31,33,12,26,34,37])) (fun _=>none),hints:=at1 8 ([.virt 9 10]) (fun _=>[]),cut:=at1 15 (true) (fun _=>false)}
noncomputable def br4Rests:Code:=bdy Tryz.f133
abbrev ofr4Rests:=@ofC Tryz.prog gr4Rests 133 Tryz.f133 br4Rests Tryz.func133 (by kernel_rfl) (by kernel_rfl) (by kernel_rfl) (by kernel_rfl)
noncomputable def gr4Lim:Ctx:={N:=8}
noncomputable def br4Lim:Code:=bdy Tryz.f132
abbrev ofr4Lim:=@ofC Tryz.prog gr4Lim 132 Tryz.f132 br4Lim Tryz.func132 (by kernel_rfl) (by kernel_rfl) (by kernel_rfl) (by kernel_rfl)
noncomputable def gr4Make:Ctx:={N:=36,hints:=at1 2 ([.asL 4]) (fun _=>[])}
noncomputable def br4Make:Code:=bdy Tryz.f84
abbrev ofr4Make:=@ofC Tryz.prog gr4Make 84 Tryz.f84 br4Make Tryz.func84 (by kernel_rfl) (by kernel_rfl) (by kernel_rfl) (by kernel_rfl)
noncomputable def gr4Alike:Ctx:={N:=38,plan:=at1 9 (some (ln [1,3,5,7,9,11,13,15,17,19,21,23,25])) (fun _=>none)}
noncomputable def br4Alike:Code:=bdy Tryz.f183
abbrev ofr4Alike:=@ofC Tryz.prog gr4Alike 183 Tryz.f183 br4Alike Tryz.func183 (by kernel_rfl) (by kernel_rfl) (by kernel_rfl) (by kernel_rfl)
noncomputable def gr4Canl:Ctx:={N:=91,plan:=at1 8 (some (ln [1,3,5,7,9,11,13,15,17,19,21,23,25,27,29,31,33,35,37])) (at1 12 (some (.one 0 true (.one 1 true (.one 2 true (.one 3 true (.one 4 true (.one 5 true (.one 6 true (.one 7 true (.one 8 true (.one 9 true (.one 10 true (.one 11 true (.alt 12 (.alt 13 (.one 14 false (.one 15 false (.one 16 false (.done)))) (.alt 14 (.one 13 false (.one 15 false (.one 16 false (.done)))) (.stop))) (.alt 13 (.alt 12 (.one 14 false (.one 15 false (.one 16 false (.done)))) (.alt 14 (.alt 12 (.one 15 false (.one 16 false (.done))) (.alt 15 (.one 12 true (.one 16 false (.done))) (.stop))) (.stop))) (.alt 14 (.alt 12 (.one 13 false (.one 15 false (.one 16 false (.done)))) (.alt 13 (.alt 12 (.one 15 false (.one 16 false (.done))) (.alt 15 (.one 12 true (.one 16 false (.done))) (.stop))) (.stop))) (.stop))))))))))))))))) (fun _=>none)),hints:=at1 4 ([.asL 5]) (fun _=>[])}
noncomputable def br4Canl:Code:=bdy Tryz.f137
abbrev ofr4Canl:=@ofC Tryz.prog gr4Canl 137 Tryz.f137 br4Canl Tryz.func137 (by kernel_rfl) (by kernel_rfl) (by kernel_rfl) (by kernel_rfl)
noncomputable def gr4Canon:Ctx:={N:=6}
noncomputable def br4Canon:Code:=bdy Tryz.f134
abbrev ofr4Canon:=@ofC Tryz.prog gr4Canon 134 Tryz.f134 br4Canon Tryz.func134 (by kernel_rfl) (by kernel_rfl) (by kernel_rfl) (by kernel_rfl)
noncomputable def gr4Vald:Ctx:={N:=18}
noncomputable def br4Vald:Code:=bdy Tryz.f90
abbrev ofr4Vald:=@ofC Tryz.prog gr4Vald 90 Tryz.f90 br4Vald Tryz.func90 (by kernel_rfl) (by kernel_rfl) (by kernel_rfl) (by kernel_rfl)
noncomputable def gr4Giv:Ctx:={N:=11}
noncomputable def br4Giv:Code:=bdy Tryz.f135
abbrev ofr4Giv:=@ofC Tryz.prog gr4Giv 135 Tryz.f135 br4Giv Tryz.func135 (by kernel_rfl) (by kernel_rfl) (by kernel_rfl) (by kernel_rfl)
noncomputable def gr4Comb:Ctx:={N:=34}
noncomputable def br4Comb:Code:=bdy Tryz.f86
abbrev ofr4Comb:=@ofC Tryz.prog gr4Comb 86 Tryz.f86 br4Comb Tryz.func86 (by kernel_rfl) (by kernel_rfl) (by kernel_rfl) (by kernel_rfl)
noncomputable def gr4Un:Ctx:={N:=11}
noncomputable def br4Un:Code:=bdy Tryz.f78
abbrev ofr4Un:=@ofC Tryz.prog gr4Un 78 Tryz.f78 br4Un Tryz.func78 (by kernel_rfl) (by kernel_rfl) (by kernel_rfl) (by kernel_rfl)
noncomputable def gr4Int:Ctx:={N:=11}
noncomputable def br4Int:Code:=bdy Tryz.f39
abbrev ofr4Int:=@ofC Tryz.prog gr4Int 39 Tryz.f39 br4Int Tryz.func39 (by kernel_rfl) (by kernel_rfl) (by kernel_rfl) (by kernel_rfl)
noncomputable def gr4Sub:Ctx:={N:=11}
noncomputable def br4Sub:Code:=bdy Tryz.f77
abbrev ofr4Sub:=@ofC Tryz.prog gr4Sub 77 Tryz.f77 br4Sub Tryz.func77 (by kernel_rfl) (by kernel_rfl) (by kernel_rfl) (by kernel_rfl)
noncomputable def gr4Subs:Ctx:={N:=12}
noncomputable def br4Subs:Code:=bdy Tryz.f93
abbrev ofr4Subs:=@ofC Tryz.prog gr4Subs 93 Tryz.f93 br4Subs Tryz.func93 (by kernel_rfl) (by kernel_rfl) (by kernel_rfl) (by kernel_rfl)
structure Grp (α:Type) where
 lo:Int
 hi:Int
 val:α
def gAt{α:Type}(l:List (Grp α))(v:Int):Option α:=(l.find? fun g=>decide (g.lo<=v)&&decide (v<=g.hi)).map (·.val)
inductive Wf {α:Type}:List (Grp α)->Prop
 |nil:Wf []
 |one (g:Grp α) (h:g.lo<=g.hi):Wf [g]
 |cons (g h:Grp α) (l:List (Grp α)) (h1:g.lo<=g.hi) (h2:g.hi<h.lo) (h3:g.hi+1=h.lo->g.val≠h.val) (hw:Wf (h::l)):Wf (g::h::l)
section
variable {α:Type}
theorem Wf.tail{g:Grp α}{l:List (Grp α)}(h:Wf (g::l)):Wf l:=by
 cases h with
 |one=>exact .nil
 |cons _ _ _ _ _ _ hw=>exact hw
theorem Wf.head{g:Grp α}{l:List (Grp α)}(h:Wf (g::l)):g.lo<=g.hi:=by
 cases h with
 |one _ h=>exact h
 |cons _ _ _ h _ _ _=>exact h
theorem Wf.above:∀{l:List (Grp α)} {g:Grp α},Wf (g::l)->∀x,x∈l->g.hi<x.lo/\x.lo<=x.hi
 |[],g,h,x,hx=>by simp at hx
 |y::l,g,h,x,hx=>by
  cases h with
  |cons _ _ _ h1 h2 h3 hw=>
   rcases List.mem_cons.1 hx with rfl|hx
   ·exact⟨h2,hw.head⟩
   ·have:=Wf.above hw x hx
    have:=hw.head
    omega
theorem Wf.le:∀{l:List (Grp α)},Wf l->∀z,z∈l->z.lo<=z.hi
 |[],_,z,hz=>by simp at hz
 |w::l,hw,z,hz=>by
  rcases List.mem_cons.1 hz with rfl|hz
  ·exact hw.head
  ·exact Wf.le hw.tail z hz
theorem gAt_nil(v:Int):gAt ([]:List (Grp α)) v=none:=rfl
theorem gAt_cons(g:Grp α)(l:List (Grp α))(v:Int):gAt (g::l) v=if g.lo<=v/\v<=g.hi then some g.val else gAt l v:=by
 unfold gAt
 rw[List.find?_cons]
 by_cases h:g.lo<=v/\v<=g.hi
 ·simp[h]
 ·have:(decide (g.lo<=v)&&decide (v<=g.hi))=false:=by
   rw[Bool.eq_false_iff,ne_eq,Bool.and_eq_true,decide_eq_true_eq,decide_eq_true_eq];exact h
  rw[this,if_neg h]
theorem gAt_none{l:List (Grp α)}{v:Int}(h:∀g,g∈l->v<g.lo\/g.hi<v):gAt l v=none:=by
 induction l with
 |nil=>rfl
 |cons g l ih=>
  rw[gAt_cons,if_neg (by have:=h g (by simp);omega)]
  exact ih fun x hx=>h x (List.mem_cons_of_mem _ hx)
theorem gAt_some{l:List (Grp α)}{v:Int}{x:α}(h:gAt l v=some x):∃g,g∈l/\g.lo<=v/\v<=g.hi/\g.val=x:=by
 induction l with
 |nil=>cases h
 |cons g l ih=>
  rw[gAt_cons]at h
  split at h
  ·rename_i hc;cases h;exact⟨g,by simp,hc.1,hc.2,rfl⟩
  ·obtain⟨y,h1,h2⟩:=ih h;exact⟨y,List.mem_cons_of_mem _ h1,h2⟩
theorem Wf.at_mem:∀{l:List (Grp α)},Wf l->∀{g:Grp α},g∈l->∀{v:Int},g.lo<=v->v<=g.hi->gAt l v=some g.val
 |[],h,g,hg,v,h1,h2=>by simp at hg
 |y::l,h,g,hg,v,h1,h2=>by
  rw[gAt_cons]
  rcases List.mem_cons.1 hg with rfl|hg
  ·rw[if_pos ⟨h1,h2⟩]
  ·have:=h.above g hg
   rw[if_neg (by omega)]
   exact Wf.at_mem h.tail hg h1 h2
theorem grp_ext:∀{l m:List (Grp α)},Wf l->Wf m->(∀v,gAt l v=gAt m v)->l=m
 |[],[],_,_,_=>rfl
 |[],h::m,_,hm,he=>by
  have:=he h.lo
  rw[gAt_nil,gAt_cons,if_pos ⟨Int.le_refl _,hm.head⟩]at this
  cases this
 |g::l,[],hl,_,he=>by
  have:=he g.lo
  rw[gAt_nil,gAt_cons,if_pos ⟨Int.le_refl _,hl.head⟩]at this
  cases this
 |g::l,h::m,hl,hm,he=>by
  have first:∀{g h:Grp α} {l m:List (Grp α)},Wf (g::l)->Wf (h::m)->(∀v,gAt (g::l) v=gAt (h::m) v)->h.lo<=g.lo:=by
   intro g h l m hl hm he
   have e:=he g.lo
   rw[gAt_cons,if_pos ⟨Int.le_refl _,hl.head⟩]at e
   obtain⟨x,hx,h1,h2,_⟩:=gAt_some e.symm
   rcases List.mem_cons.1 hx with rfl|hx
   ·exact h1
   ·have:=hm.above x hx;have:=hm.head;omega
  have elo:g.lo=h.lo:=Int.le_antisymm (first hm hl fun v=>(he v).symm) (first hl hm he)
  have eval:g.val=h.val:=by
   have e:=he g.lo
   rw[gAt_cons,if_pos ⟨Int.le_refl _,hl.head⟩,gAt_cons,if_pos ⟨by omega,by have:=hm.head;omega⟩]at e
   exact Option.some.inj e
  have last:∀{g h:Grp α} {l m:List (Grp α)},Wf (g::l)->Wf (h::m)->g.lo=h.lo->g.val=h.val->(∀v,gAt (g::l) v=gAt (h::m) v)->h.hi<=g.hi:=by
   intro g h l m hl hm elo eval he
   rcases Int.lt_or_le g.hi h.hi with hlt|hge
   ·exfalso
    have e:=he (g.hi+1)
    have h1:=hl.head
    rw[gAt_cons,if_neg (by omega),gAt_cons (g:=h),if_pos ⟨by omega,by omega⟩]at e
    obtain⟨x,hx,x1,x2,x3⟩:=gAt_some e
    cases hl with
    |one=>simp at hx
    |cons _ y l _ y2 y3 hw=>
     rcases List.mem_cons.1 hx with rfl|hx
     ·exact y3 (by omega) (by rw[x3,eval])
     ·have:=hw.above x hx;have:=hw.head;omega
   ·exact hge
  have ehi:g.hi=h.hi:=Int.le_antisymm (last hm hl elo.symm eval.symm fun v=>(he v).symm) (last hl hm elo eval he)
  have eg:g=h:=by
   cases g;cases h
   simp only at elo eval ehi
   subst elo;subst eval;subst ehi;rfl
  subst eg
  congr 1
  refine grp_ext hl.tail hm.tail fun v=>?_
  have e:=he v
  rw[gAt_cons,gAt_cons]at e
  by_cases hc:g.lo<=v/\v<=g.hi
  ·have none_:∀{l:List (Grp α)},Wf (g::l)->gAt l v=none:=fun hw=>gAt_none fun x hx=>by have:=hw.above x hx;omega
   rw[none_ hl,none_ hm]
  ·rw[if_neg hc,if_neg hc]at e;exact e
theorem Wf.snoc:∀{l:List (Grp α)} {g:Grp α},Wf l->g.lo<=g.hi->(∀x,l.getLast?=some x->x.hi<g.lo/\(x.hi+1=g.lo->x.val≠g.val))->Wf (l++[g])
 |[],g,_,hg,_=>.one g hg
 |[x],g,hl,hg,h=>.cons x g [] hl.head (h x rfl).1 (h x rfl).2 (.one g hg)
 |x::y::l,g,hl,hg,h=>by
  cases hl with
  |cons _ _ _ h1 h2 h3 hw=>exact .cons x y (l++[g]) h1 h2 h3 (Wf.snoc hw hg fun z hz=>h z (by rw[List.getLast?_cons_cons];exact hz))
theorem Wf.init:∀{l:List (Grp α)} {g:Grp α},Wf (l++[g])->Wf l/\g.lo<=g.hi/\∀x,l.getLast?=some x->x.hi<g.lo/\(x.hi+1=g.lo->x.val≠g.val)
 |[],g,h=>⟨.nil,h.head,fun x hx=>by simp at hx⟩
 |[x],g,h=>by
  cases h with
  |cons _ _ _ h1 h2 h3 hw=>exact⟨.one x h1,hw.head,fun y hy=>by simp at hy;subst hy;exact⟨h2,h3⟩⟩
 |x::y::l,g,h=>by
  cases h with
  |cons _ _ _ h1 h2 h3 hw=>
   obtain⟨i1,i2,i3⟩:=Wf.init (l:=y::l) hw
   exact⟨.cons x y l h1 h2 h3 i1,i2,fun z hz=>i3 z (by rw[List.getLast?_cons_cons]at hz;exact hz)⟩
theorem Wf.under:∀{l:List (Grp α)} {g:Grp α},Wf (l++[g])->∀x,x∈l->x.hi<g.lo:=by
 intro l
 induction l with
 |nil=>intro g _ x hx;simp at hx
 |cons y l ih=>
  intro g h x hx
  rcases List.mem_cons.1 hx with rfl|hx
  ·exact(Wf.above h g (by simp)).1
  ·exact ih h.tail x hx
theorem gAt_snoc{l:List (Grp α)}{g:Grp α}(hw:Wf (l++[g]))(v:Int):gAt (l++[g]) v=if g.lo<=v/\v<=g.hi then some g.val else gAt l v:=by
 induction l with
 |nil=>rw[List.nil_append,gAt_cons]
 |cons y l ih=>
  rw[List.cons_append,gAt_cons,ih hw.tail,gAt_cons]
  have:=Wf.under (l:=y::l) hw y (by simp)
  by_cases h1:y.lo<=v/\v<=y.hi
  ·rw[if_pos h1,if_pos h1,if_neg (by omega)]
  ·rw[if_neg h1,if_neg h1]
end
def lab{β:Type}(R:Int->List β)(v:Int):Option (List β):=if(R v).isEmpty then none else some (R v)
def grow{β:Type}(eq:List β->List β->Bool)(out:List (Grp (List β)))(s:Int×Int)(rest:List β):List (Grp (List β)):=
 if rest.isEmpty then out else match out.getLast? with
  |some g=>if g.hi+1=s.1/\eq g.val rest=true then out.dropLast++[⟨g.lo,s.2,g.val⟩]else out++[⟨s.1,s.2,rest⟩]
  |none=>[⟨s.1,s.2,rest⟩]
structure GInv {β:Type} (R:Int->List β) (out:List (Grp (List β))) (e:Int):Prop where
 wf:Wf out
 at_:∀v,gAt out v=if 0<=v/\v<e then lab R v else none
 low:∀g,g∈out->0<=g.lo/\g.hi<e
 full:∀g,g∈out->g.val≠[]
theorem GInv.start{β:Type}(R:Int->List β):GInv R [] 0:=⟨.nil,fun v=>by rw[gAt_nil,if_neg (by omega)],fun g h=>by simp at h,fun g h=>by simp at h⟩
theorem GInv.step{β:Type}{eq:List β->List β->Bool}(heq:∀a b,eq a b=true↔a=b){R:Int->List β}{out:List (Grp (List β))}{lo hi:Int}(h:GInv R out lo)(h0:0<=lo)(hle:lo<=hi)(hR:∀v,lo<=v->v<=hi->R v=R lo):
  GInv R (grow eq out (lo,hi) (R lo)) (hi+1):=by
 have at_new:∀(m:List (Grp (List β))),(∀v,gAt m v=if lo<=v/\v<=hi then lab R lo else gAt out v)->∀v,gAt m v=if 0<=v/\v<hi+1 then lab R v else none:=fun m hm v=>by
  rw[hm,h.at_]
  by_cases h1:lo<=v/\v<=hi
  ·rw[if_pos h1,if_pos (by omega),lab,lab,hR v h1.1 h1.2]
  ·rw[if_neg h1]
   by_cases h2:0<=v/\v<lo
   ·rw[if_pos h2,if_pos (by omega)]
   ·rw[if_neg h2,if_neg (by omega)]
 unfold grow
 split
 ·rename_i he
  have hl:lab R lo=none:=by unfold lab;rw[if_pos he]
  refine⟨h.wf,at_new out fun v=>?_,fun g hg=>?_,h.full⟩
  ·by_cases h1:lo<=v/\v<=hi
   ·rw[if_pos h1,hl,h.at_,if_neg (by omega)]
   ·rw[if_neg h1]
  ·have:=h.low g hg;omega
 ·rename_i he
  have hl:lab R lo=some (R lo):=by unfold lab;rw[if_neg he]
  have hne:R lo≠[]:=fun e=>he (by rw[e];rfl)
  rcases List.eq_nil_or_concat out with hn|⟨ini,g,hc⟩
  ·subst hn
   simp only[List.getLast?_nil]
   refine⟨.one _ hle,at_new _ fun v=>?_,fun x hx=>?_,fun x hx=>?_⟩
   ·rw[gAt_cons,hl,gAt_nil]
   ·simp only[List.mem_singleton]at hx;subst hx;exact⟨h0,by simp only;omega⟩
   ·simp only[List.mem_singleton]at hx;subst hx;exact hne
  ·rw[List.concat_eq_append]at hc
   subst hc
   simp only[List.getLast?_append,List.getLast?_singleton,Option.some_or,List.dropLast_concat]
   have hg:=h.low g (by simp)
   have hin:=h.wf.init
   split
   ·rename_i hc
    have hval:=(heq _ _).1 hc.2
    have hw:Wf (ini++[⟨g.lo,hi,g.val⟩]):=Wf.snoc hin.1 (by have:=hin.2.1;simp only;omega) hin.2.2
    refine⟨hw,at_new _ fun v=>?_,fun x hx=>?_,fun x hx=>?_⟩
    ·rw[gAt_snoc hw,gAt_snoc h.wf,hl]
     simp only
     have:=hin.2.1
     by_cases h1:lo<=v/\v<=hi
     ·rw[if_pos h1,if_pos (by omega),hval]
     ·rw[if_neg h1]
      by_cases h2:g.lo<=v/\v<=g.hi
      ·rw[if_pos h2,if_pos (by omega)]
      ·rw[if_neg h2,if_neg (by omega)]
    ·rcases List.mem_append.1 hx with hx|hx
     ·have:=h.low x (by simp[hx]);omega
     ·simp only[List.mem_singleton]at hx;subst hx;exact⟨hg.1,by simp only;omega⟩
    ·rcases List.mem_append.1 hx with hx|hx
     ·exact h.full x (by simp[hx])
     ·simp only[List.mem_singleton]at hx;subst hx;exact h.full g (by simp)
   ·rename_i hc
    have hw:Wf ((ini++[g])++[⟨lo,hi,R lo⟩]):=Wf.snoc h.wf hle fun x hx=>by
     simp only[List.getLast?_append,List.getLast?_singleton,Option.some_or,Option.some.injEq]at hx
     subst hx
     exact⟨hg.2,fun e1 e2=>hc ⟨e1,(heq _ _).2 e2⟩⟩
    refine⟨hw,at_new _ fun v=>?_,fun x hx=>?_,fun x hx=>?_⟩
    ·rw[gAt_snoc hw,hl]
    ·rcases List.mem_append.1 hx with hx|hx
     ·have:=h.low x hx;omega
     ·simp only[List.mem_singleton]at hx;subst hx;exact⟨h0,by simp only;omega⟩
    ·rcases List.mem_append.1 hx with hx|hx
     ·exact h.full x hx
     ·simp only[List.mem_singleton]at hx;subst hx;exact hne
theorem GInv.same{β:Type}{R:Int->List β}{l m:List (Grp (List β))}{e:Int}(h1:GInv R l e)(h2:GInv R m e):l=m:=
 grp_ext h1.wf h2.wf fun v=>by rw[h1.at_,h2.at_]
structure Bx where
 r0:Rg
 r1:Rg
 r2:Rg
 r3:Rg
 r4:Rg
deriving DecidableEq
def Bx.get(b:Bx):Nat->Rg
 |0=>b.r0
 |1=>b.r1
 |2=>b.r2
 |3=>b.r3
 |_=>b.r4
def Bx.put(b:Bx)(f:Nat)(r:Rg):Bx:=match f with
 |0=>{b with r0:=r}
 |1=>{b with r1:=r}
 |2=>{b with r2:=r}
 |3=>{b with r3:=r}
 |_=>{b with r4:=r}
def zR:Rg:=⟨0,0,by decide,by decide,by decide,by decide⟩
def zB:Bx:=⟨zR,zR,zR,zR,zR⟩
def topF:Nat->Int
 |0=>4294967295
 |1=>4294967295
 |2=>255
 |3=>65535
 |_=>65535
theorem topF_pos(f:Nat):0<=topF f/\topF f<=4294967295:=by
 unfold topF;split<;>decide
def atF(f:Nat)(v:Int)(l:List Bx):List Bx:=l.filter fun b=>decide ((b.get f).lo<=v)&&decide (v<=(b.get f).hi)
def rngs(f:Nat)(a b:List Bx):List Rg:=a.map (·.get f)++b.map (·.get f)
def eqB(x y:List Bx):Bool:=decide (x=y)
theorem eqB_iff(x y:List Bx):eqB x y=true↔x=y:=by unfold eqB;exact decide_eq_true_iff
def groupsOf(R:Int->List Bx)(top:Int)(st:List Int):List (Grp (List Bx)):=(segs top st).foldl (fun out s=>grow eqB out s (R s.1)) []
def flatG(f:Nat)(gs:List (Grp (List Bx))):List Bx:=gs.flatMap fun g=>g.val.map fun b=>b.put f (mkR g.lo g.hi)
def cano(op:Bool->Bool->Bool):Nat->List Bx->List Bx->List Bx
 |0,a,b=>if op (!a.isEmpty) (!b.isEmpty)then [zB]else []
 |k+1,a,b=>flatG (4-k) (groupsOf (fun v=>cano op k (atF (4-k) v a) (atF (4-k) v b)) (topF (4-k)) (starts (rngs (4-k) a b) (topF (4-k))))
structure Cuts (top:Int) (l:List Rg) (st:List Int):Prop where
 sorted:st.Pairwise (· < ·)
 range:∀x,x∈st->0<=x/\x<=top
 zero:∃r,st=0::r
 mem:∀r,r∈l->r.lo<=r.hi->(r.lo<=top->r.lo∈st)/\(r.hi+1<=top->r.hi+1∈st)
theorem starts_cuts(l:List Rg){top:Int}(ht:0<=top):Cuts top l (starts l top):=by
 have inv:=starts_inv l ht
 exact⟨inv.sorted,inv.range,inv.zero,fun r hr hle=>starts_mem l ht hr hle⟩
theorem Cuts.const{top:Int}{l:List Rg}{st:List Int}(h:Cuts top l st){s:Int×Int}(hs:s∈segs top st){v:Int}(h1:s.1<=v)(h2:v<=s.2){r:Rg}(hr:r∈l):(r.lo<=v/\v<=r.hi)↔(r.lo<=s.1/\s.1<=r.hi):=by
 obtain⟨g1,g2,g3⟩:=segs_spec _ h.sorted (fun x hx=>(h.range x hx).2) s hs
 constructor
 ·rintro⟨a1,a2⟩
  refine⟨?_,by omega⟩
  rcases Int.lt_or_le s.1 r.lo with hlt|hge
  ·exact absurd ⟨hlt,by omega⟩ (g3 r.lo ((h.mem r hr (by omega)).1 (by omega)))
  ·exact hge
 ·rintro⟨a1,a2⟩
  refine⟨by omega,?_⟩
  rcases Int.lt_or_le r.hi v with hlt|hge
  ·exact absurd ⟨by omega,by omega⟩ (g3 (r.hi+1) ((h.mem r hr (by omega)).2 (by omega)))
  ·exact hge
theorem fold_ginv{R:Int->List Bx}{top:Int}:∀(r:List Int) (x:Int) (out:List (Grp (List Bx))),GInv R out x->0<=x->(x::r).Pairwise (· < ·)->(∀y,y∈x::r->y<=top)->(∀s,s∈segs top (x::r)->∀v,s.1<=v->v<=s.2->R v=R s.1)->
  GInv R ((segs top (x::r)).foldl (fun out s=>grow eqB out s (R s.1)) out) (top+1)
 |[],x,out,h,h0,hp,hb,hR=>by
  simp only[segs,List.foldl_cons,List.foldl_nil]
  exact h.step eqB_iff h0 (hb x (by simp)) (fun v v1 v2=>hR (x,top) (by simp[segs]) v v1 v2)
 |y::r,x,out,h,h0,hp,hb,hR=>by
  simp only[segs,List.foldl_cons]
  obtain⟨p1,p2⟩:=List.pairwise_cons.1 hp
  have hxy:=p1 y (by simp)
  have hs:=h.step eqB_iff (hi:=y-1) h0 (by omega) (fun v v1 v2=>hR (x,y-1) (by simp[segs]) v v1 v2)
  rw[show y-1+1=y by omega]at hs
  exact fold_ginv r y _ hs (by omega) p2 (fun z hz=>hb z (List.mem_cons_of_mem _ hz)) (fun s hs=>hR s (by simp only[segs,List.mem_cons];exact .inr hs))
theorem Cuts.groups{R:Int->List Bx}{top:Int}{l:List Rg}{st:List Int}(h:Cuts top l st)(hR:∀u v,(∀r,r∈l->((r.lo<=u/\u<=r.hi)↔(r.lo<=v/\v<=r.hi)))->R u=R v):GInv R (groupsOf R top st) (top+1):=by
 obtain⟨r,hr⟩:=h.zero
 have hs:=h.sorted;have hb:=fun y hy=>(h.range y hy).2
 have hc:∀s,s∈segs top st->∀v,s.1<=v->v<=s.2->R v=R s.1:=fun s hs v v1 v2=>hR v s.1 fun r hr=>h.const hs v1 v2 hr
 rw[groupsOf,hr]
 rw[hr]at hs hb hc
 exact fold_ginv r 0 [] (GInv.start R) (Int.le_refl _) hs hb hc
theorem atF_congr{f:Nat}{u v:Int}{l:List Bx}(h:∀b,b∈l->(((b.get f).lo<=u/\u<=(b.get f).hi)↔((b.get f).lo<=v/\v<=(b.get f).hi))):atF f u l=atF f v l:=by
 unfold atF
 refine List.filter_congr fun b hb=>?_
 rw[Bool.eq_iff_iff,Bool.and_eq_true,Bool.and_eq_true,decide_eq_true_eq,decide_eq_true_eq,decide_eq_true_eq,decide_eq_true_eq]
 exact h b hb
def restAt(op:Bool->Bool->Bool)(k:Nat)(a b:List Bx)(v:Int):List Bx:=cano op k (atF (4-k) v a) (atF (4-k) v b)
theorem restAt_congr{op:Bool->Bool->Bool}{k:Nat}{a b:List Bx}{u v:Int}(h:∀r,r∈rngs (4-k) a b->((r.lo<=u/\u<=r.hi)↔(r.lo<=v/\v<=r.hi))):restAt op k a b u=restAt op k a b v:=by
 unfold restAt
 rw[atF_congr fun x hx=>h _ (List.mem_append.2 (.inl (List.mem_map_of_mem hx))),atF_congr (l:=b) fun x hx=>h _ (List.mem_append.2 (.inr (List.mem_map_of_mem hx)))]
theorem cano_succ(op:Bool->Bool->Bool)(k:Nat)(a b:List Bx):cano op (k+1) a b=flatG (4-k) (groupsOf (restAt op k a b) (topF (4-k)) (starts (rngs (4-k) a b) (topF (4-k)))):=by rw[cano];rfl
theorem cano_ginv(op:Bool->Bool->Bool)(k:Nat)(a b:List Bx){st:List Int}(hc:Cuts (topF (4-k)) (rngs (4-k) a b) st):GInv (restAt op k a b) (groupsOf (restAt op k a b) (topF (4-k)) st) (topF (4-k)+1):=hc.groups fun u v h=>restAt_congr h
theorem cano_any(op:Bool->Bool->Bool)(k:Nat)(a b:List Bx){st:List Int}(hc:Cuts (topF (4-k)) (rngs (4-k) a b) st):cano op (k+1) a b=flatG (4-k) (groupsOf (restAt op k a b) (topF (4-k)) st):=by
 rw[cano_succ,(cano_ginv op k a b (starts_cuts _ (topF_pos _).1)).same (cano_ginv op k a b hc)]
theorem flatG_nil{f:Nat}{gs:List (Grp (List Bx))}(h:∀g,g∈gs->g.val≠[]):flatG f gs=[]↔gs=[]:=by
 constructor
 ·intro he
  cases gs with
  |nil=>rfl
  |cons g gs=>
   have:=h g (by simp)
   rw[flatG,List.flatMap_cons,List.append_eq_nil_iff,List.map_eq_nil_iff]at he
   exact absurd he.1 this
 ·rintro rfl;rfl
theorem cano_nil_iff(op:Bool->Bool->Bool)(k:Nat)(a b:List Bx):cano op (k+1) a b=[]↔∀v,0<=v->v<=topF (4-k)->restAt op k a b v=[]:=by
 have g:=cano_ginv op k a b (starts_cuts (rngs (4-k) a b) (topF_pos (4-k)).1)
 rw[cano_succ,flatG_nil g.full]
 constructor
 ·intro h v v0 v1
  have:=g.at_ v
  rw[h,gAt_nil,if_pos ⟨v0,by omega⟩,lab]at this
  split at this
  ·rename_i he;exact List.isEmpty_iff.1 he
  ·cases this
 ·intro h
  cases hg:groupsOf (restAt op k a b) (topF (4-k)) (starts (rngs (4-k) a b) (topF (4-k)))with
  |nil=>rfl
  |cons x l=>
   exfalso
   rw[hg]at g
   have hx:=g.low x (by simp)
   have hle:=g.wf.head
   have e:=g.at_ x.lo
   rw[gAt_cons,if_pos ⟨Int.le_refl _,hle⟩,if_pos ⟨hx.1,by omega⟩,lab,h x.lo hx.1 (by omega)]at e
   cases e
theorem atF_nil_of{f:Nat}{v:Int}{l:List Bx}(h:(atF f v l).isEmpty=false):l.isEmpty=false:=by
 cases l with
 |nil=>simp[atF]at h
 |cons=>rfl
def Dead(op:Bool->Bool->Bool)(x y:Bool):Prop:=∀p q,(p=true->x=true)->(q=true->y=true)->op p q=false
theorem cano_dead(op:Bool->Bool->Bool):∀(k:Nat) (a b:List Bx),Dead op (!a.isEmpty) (!b.isEmpty)->cano op k a b=[]
 |0,a,b,h=>by rw[cano,h _ _ id id];rfl
 |k+1,a,b,h=>by
  rw[cano_nil_iff]
  intro v _ _
  refine cano_dead op k _ _ fun p q hp hq=>h p q (fun e=>?_) (fun e=>?_)
  ·have:=hp e
   simp only[Bool.not_eq_true']at this⊢
   exact atF_nil_of this
  ·have:=hq e
   simp only[Bool.not_eq_true']at this⊢
   exact atF_nil_of this
/-! ### The limit -/
def sizeG(gs:List (Grp (List Bx))):Nat:=(gs.map fun g=>g.val.length).sum
theorem flatG_len(f:Nat)(gs:List (Grp (List Bx))):(flatG f gs).length=sizeG gs:=by
 induction gs with
 |nil=>rfl
 |cons g gs ih=>
  rw[flatG]at ih⊢
  rw[List.flatMap_cons,List.length_append,List.length_map,ih]
  simp[sizeG]
theorem sizeG_snoc(l:List (Grp (List Bx)))(g:Grp (List Bx)):sizeG (l++[g])=sizeG l+g.val.length:=by simp[sizeG]
theorem grow_size(out:List (Grp (List Bx)))(s:Int×Int)(rest:List Bx):sizeG out<=sizeG (grow eqB out s rest)/\rest.length<=sizeG (grow eqB out s rest):=by
 unfold grow
 split
 ·rename_i h
  rw[List.isEmpty_iff.1 h]
  exact⟨Nat.le_refl _,Nat.zero_le _⟩
 ·rcases List.eq_nil_or_concat out with hn|⟨ini,g,hc⟩
  ·subst hn
   simp[sizeG]
  ·rw[List.concat_eq_append]at hc
   subst hc
   simp only[List.getLast?_append,List.getLast?_singleton,Option.some_or,List.dropLast_concat]
   split
   ·rename_i hc
    have:=congrArg List.length ((eqB_iff _ _).1 hc.2)
    simp only[sizeG_snoc]
    omega
   ·simp only[sizeG_snoc]
    omega
theorem fold_size(R:Int->List Bx):∀(l:List (Int×Int)) (out:List (Grp (List Bx))),sizeG out<=sizeG (l.foldl (fun out s=>grow eqB out s (R s.1)) out)
 |[],out=>Nat.le_refl _
 |s::l,out=>Nat.le_trans (grow_size out s (R s.1)).1 (fold_size R l _)
theorem get_put{b:Bx}{f:Nat}{r:Rg}(h:f<=4):(b.put f r).get f=r:=by
 rcases f with _|_|_|_|_|f
 all_goals first|rfl|omega
theorem get_put_ne{b:Bx}{f g:Nat}{r:Rg}(hf:f<=4)(hg:g<=4)(h:g≠f):(b.put f r).get g=b.get g:=by
 rcases f with _|_|_|_|_|f<;>rcases g with _|_|_|_|_|g
 all_goals first|rfl|omega
theorem put_put{b:Bx}{f:Nat}{r s:Rg}:(b.put f r).put f s=b.put f s:=by
 rcases f with _|_|_|_|f<;>rfl
theorem put_get{b:Bx}{f:Nat}:b.put f (b.get f)=b:=by
 rcases f with _|_|_|_|f<;>rfl
theorem bx_ext{a b:Bx}(h:∀f,f<=4->a.get f=b.get f):a=b:=by
 have h0:=h 0 (by omega);have h1:=h 1 (by omega);have h2:=h 2 (by omega);have h3:=h 3 (by omega);have h4:=h 4 (by omega)
 cases a;cases b
 simp only[Bx.get]at h0 h1 h2 h3 h4
 subst h0;subst h1;subst h2;subst h3;subst h4;rfl
def inK(p:Nat->Int):Nat->Bx->Bool
 |0,_=>true
 |k+1,b=>decide ((b.get (4-k)).lo<=p (4-k))&&decide (p (4-k)<=(b.get (4-k)).hi)&&inK p k b
def memK(p:Nat->Int)(k:Nat)(l:List Bx):Bool:=l.any (inK p k)
theorem memK_zero(p:Nat->Int)(l:List Bx):memK p 0 l= !l.isEmpty:=by cases l<;>rfl
theorem memK_succ(p:Nat->Int)(k:Nat)(l:List Bx):memK p (k+1) l=memK p k (atF (4-k) (p (4-k)) l):=by
 rw[memK,memK,atF,List.any_filter]
 rfl
theorem inK_put{p:Nat->Int}{b:Bx}{r:Rg}{k:Nat}(hk:k<=4):∀{j:Nat},j<=k->inK p j (b.put (4-k) r)=inK p j b
 |0,_=>rfl
 |j+1,hj=>by
  rw[inK,inK,inK_put hk (by omega),get_put_ne (by omega) (by omega) (by omega)]
theorem memK_flatG{p:Nat->Int}{k:Nat}(hk:k<=4):∀{gs:List (Grp (List Bx))},Wf gs->(∀g,g∈gs->0<=g.lo/\g.hi<=4294967295)->memK p (k+1) (flatG (4-k) gs)=match gAt gs (p (4-k))with
  |some l=>memK p k l
  |none=>false:=by
 intro gs
 induction gs with
 |nil=>intro _ _;rfl
 |cons g gs ih=>
  intro hw hb
  have ih:=ih hw.tail fun x hx=>hb x (List.mem_cons_of_mem _ hx)
  have hg:=hb g (by simp)
  have hle:=hw.head
  have e:memK p (k+1) (flatG (4-k) (g::gs))=(memK p (k+1) (g.val.map fun b=>b.put (4-k) (mkR g.lo g.hi))||memK p (k+1) (flatG (4-k) gs)):=by
   simp[memK,flatG,List.any_append]
  have e2:memK p (k+1) (g.val.map fun b=>b.put (4-k) (mkR g.lo g.hi))=(decide (g.lo<=p (4-k))&&decide (p (4-k)<=g.hi)&&memK p k g.val):=by
   rw[memK,memK,List.any_map]
   have:(inK p (k+1)∘fun b=>b.put (4-k) (mkR g.lo g.hi))=fun b=>decide (g.lo<=p (4-k))&&decide (p (4-k)<=g.hi)&&inK p k b:=by
    funext b
    simp only[Function.comp,inK]
    rw[get_put (by omega),inK_put hk (Nat.le_refl _),mkR_lo (by omega) (by omega) (by omega) (by omega),mkR_hi (by omega) (by omega) (by omega) (by omega)]
   rw[this]
   generalize (decide (g.lo<=p (4-k))&&decide (p (4-k)<=g.hi))=c
   cases c<;>simp
  rw[e,e2,ih,gAt_cons]
  by_cases hc:g.lo<=p (4-k)/\p (4-k)<=g.hi
  ·rw[if_pos hc,decide_eq_true hc.1,decide_eq_true hc.2]
   have:gAt gs (p (4-k))=none:=gAt_none fun x hx=>by have:=hw.above x hx;omega
   rw[this];simp
  ·rw[if_neg hc]
   have:(decide (g.lo<=p (4-k))&&decide (p (4-k)<=g.hi))=false:=by
    rw[Bool.eq_false_iff,ne_eq,Bool.and_eq_true,decide_eq_true_eq,decide_eq_true_eq];exact hc
   rw[this];simp
theorem cano_wf(op:Bool->Bool->Bool)(k:Nat)(a b:List Bx):GInv (restAt op k a b) (groupsOf (restAt op k a b) (topF (4-k)) (starts (rngs (4-k) a b) (topF (4-k)))) (topF (4-k)+1):=cano_ginv op k a b (starts_cuts _ (topF_pos _).1)
theorem cano_mem(op:Bool->Bool->Bool){p:Nat->Int}(hp:∀f,0<=p f/\p f<=topF f):∀(k:Nat) (a b:List Bx),k<=5->memK p k (cano op k a b)=op (memK p k a) (memK p k b)
 |0,a,b,_=>by
  rw[memK_zero,memK_zero,memK_zero,cano]
  cases op (!a.isEmpty) (!b.isEmpty)<;>rfl
 |k+1,a,b,hk=>by
  have g:=cano_wf op k a b
  have ht:=topF_pos (4-k)
  have hpk:=hp (4-k)
  rw[cano_succ,memK_flatG (by omega) g.wf (fun x hx=>by have:=g.low x hx;omega),g.at_,if_pos ⟨hpk.1,by omega⟩,memK_succ,memK_succ,<-cano_mem op hp k _ _ (by omega)]
  have hr:cano op k (atF (4-k) (p (4-k)) a) (atF (4-k) (p (4-k)) b)=restAt op k a b (p (4-k)):=rfl
  rw[hr,lab]
  cases restAt op k a b (p (4-k))with
  |nil=>rfl
  |cons x l=>rfl
def okK:Nat->Bx->Prop
 |0,b=>b=zB
 |k+1,b=>((b.get (4-k)).lo<=(b.get (4-k)).hi/\(b.get (4-k)).hi<=topF (4-k))/\okK k (b.put (4-k) zR)
theorem okK_get:∀{k:Nat} {b:Bx},k<=5->okK k b->∀f,f<=4->if 5<=f+k then((b.get f).lo<=(b.get f).hi/\(b.get f).hi<=topF f)else b.get f=zR
 |0,b,_,h,f,hf=>by
  rw[if_neg (by omega)]
  rw[okK]at h;subst h
  rcases f with _|_|_|_|_|f<;>first|rfl|omega
 |k+1,b,hk,h,f,hf=>by
  obtain⟨h1,h2⟩:=h
  have ih:=okK_get (by omega) h2 f hf
  by_cases e:f=4-k
  ·subst e
   rw[if_pos (by omega)]
   exact h1
  ·rw[get_put_ne (by omega) hf e]at ih
   by_cases h5:5<=f+k
   ·rw[if_pos h5]at ih;rw[if_pos (by omega)];exact ih
   ·rw[if_neg h5]at ih;rw[if_neg (by omega)];exact ih
theorem cano_ok(op:Bool->Bool->Bool):∀(k:Nat) (a b:List Bx),k<=5->∀x,x∈cano op k a b->okK k x
 |0,a,b,_,x,hx=>by
  rw[cano]at hx
  split at hx
  ·simp only[List.mem_singleton]at hx;exact hx
  ·simp at hx
 |k+1,a,b,hk,x,hx=>by
  have g:=cano_wf op k a b
  have ht:=topF_pos (4-k)
  rw[cano_succ]at hx
  obtain⟨gr,hgr,hx⟩:=List.mem_flatMap.1 hx
  obtain⟨y,hy,rfl⟩:=List.mem_map.1 hx
  have hl:=g.low gr hgr
  have hle:=g.wf.le gr hgr
  have hat:=g.wf.at_mem hgr (Int.le_refl gr.lo) hle
  rw[g.at_,if_pos ⟨hl.1,by omega⟩,lab]at hat
  split at hat
  ·cases hat
  ·have hv:=Option.some.inj hat
   rw[<-hv]at hy
   have hyk:=cano_ok op k _ _ (by omega) y hy
   refine⟨?_,?_⟩
   ·rw[get_put (by omega),mkR_lo (by omega) (by omega) (by omega) (by omega),mkR_hi (by omega) (by omega) (by omega) (by omega)]
    exact⟨hle,by omega⟩
   ·rw[put_put]
    have hz:=okK_get (by omega) hyk (4-k) (by omega)
    rw[if_neg (by omega)]at hz
    rw[<-hz,put_get]
    exact hyk
theorem mkR_self(r:Rg):mkR r.lo r.hi=r:=by
 unfold mkR
 rw[dif_pos ⟨r.l0,r.l1,r.h0,r.h1⟩]
def zeroTo(k:Nat)(b:Bx):Bx:=⟨if 5<=k then b.r0 else zR,if 4<=k then b.r1 else zR,if 3<=k then b.r2 else zR,if 2<=k then b.r3 else zR,if 1<=k then b.r4 else zR⟩
theorem zeroTo_get{k:Nat}{b:Bx}{f:Nat}(hf:f<=4):(zeroTo k b).get f=if 5<=f+k then b.get f else zR:=by
 rcases f with _|_|_|_|_|f
 ·simp only[Bx.get,zeroTo,Nat.zero_add]
 ·simp only[Bx.get,zeroTo];congr 1;apply propext;omega
 ·simp only[Bx.get,zeroTo];congr 1;apply propext;omega
 ·simp only[Bx.get,zeroTo];congr 1;apply propext;omega
 ·simp only[Bx.get,zeroTo];congr 1;apply propext;omega
 ·omega
theorem zeroTo_put{k:Nat}{b:Bx}(hk:k<=4):(zeroTo k b).put (4-k) (b.get (4-k))=zeroTo (k+1) b:=by
 refine bx_ext fun f hf=>?_
 by_cases e:f=4-k
 ·subst e
  rw[get_put (by omega),zeroTo_get (by omega),if_pos (by omega)]
 ·rw[get_put_ne (by omega) hf e,zeroTo_get hf,zeroTo_get hf]
  by_cases h5:5<=f+k
  ·rw[if_pos h5,if_pos (by omega)]
  ·rw[if_neg h5,if_neg (by omega)]
theorem put_zeroTo{k:Nat}{b:Bx}(hk:k<=4):(zeroTo (k+1) b).put (4-k) zR=zeroTo k b:=by
 refine bx_ext fun f hf=>?_
 by_cases e:f=4-k
 ·subst e
  rw[get_put (by omega),zeroTo_get (by omega),if_neg (by omega)]
 ·rw[get_put_ne (by omega) hf e,zeroTo_get hf,zeroTo_get hf]
  by_cases h5:5<=f+k
  ·rw[if_pos h5,if_pos (by omega)]
  ·rw[if_neg h5,if_neg (by omega)]
theorem zeroTo_five(b:Bx):zeroTo 5 b=b:=rfl
theorem okK_zero{k:Nat}{b:Bx}(hk:k<=4)(h:okK k b):b.put (4-k) zR=b:=by
 have:=okK_get (by omega) h (4-k) (by omega)
 rw[if_neg (by omega)]at this
 rw[<-this,put_get]
def runsF(f:Nat):List Bx->List (List Bx)
 |[]=>[]
 |x::l=>match runsF f l with
  |[]=>[[x]]
  |[]::rs=>[x]::rs
  |(y::r)::rs=>if y.get f=x.get f then(x::y::r)::rs else [x]::(y::r)::rs
def rgOf(f:Nat)(p:List Bx):Rg:=match p with
 |x::_=>x.get f
 |[]=>zR
inductive Parts (f:Nat):List (List Bx)->Prop
 |nil:Parts f []
 |one (p:List Bx) (h1:p≠[]) (h2:∀x,x∈p->x.get f=rgOf f p):Parts f [p]
 |cons (p q:List Bx) (ps:List (List Bx)) (h1:p≠[]) (h2:∀x,x∈p->x.get f=rgOf f p) (h3:rgOf f p≠rgOf f q) (hw:Parts f (q::ps)):Parts f (p::q::ps)
theorem Parts.tail{f:Nat}{p:List Bx}{ps:List (List Bx)}(h:Parts f (p::ps)):Parts f ps:=by
 cases h with
 |one=>exact .nil
 |cons _ _ _ _ _ _ hw=>exact hw
theorem Parts.head{f:Nat}{p:List Bx}{ps:List (List Bx)}(h:Parts f (p::ps)):p≠[]/\∀x,x∈p->x.get f=rgOf f p:=by
 cases h with
 |one _ h1 h2=>exact⟨h1,h2⟩
 |cons _ _ _ h1 h2 _ _=>exact⟨h1,h2⟩
theorem Parts.mem{f:Nat}:∀{ps:List (List Bx)},Parts f ps->∀p,p∈ps->p≠[]/\∀x,x∈p->x.get f=rgOf f p
 |[],_,p,hp=>by simp at hp
 |q::ps,h,p,hp=>by
  rcases List.mem_cons.1 hp with rfl|hp
  ·exact h.head
  ·exact Parts.mem h.tail p hp
theorem runs_flat(f:Nat):∀l:List Bx,(runsF f l).flatten=l
 |[]=>rfl
 |x::l=>by
  have ih:=runs_flat f l
  rw[runsF]
  split
  ·rename_i h;rw[h]at ih;rw[<-ih];rfl
  ·rename_i rs h;rw[h]at ih;rw[<-ih];rfl
  ·rename_i y r rs h
   rw[h]at ih
   split
   ·rw[<-ih];rfl
   ·rw[<-ih];rfl
theorem runs_parts(f:Nat):∀l:List Bx,Parts f (runsF f l)
 |[]=>.nil
 |x::l=>by
  have ih:=runs_parts f l
  rw[runsF]
  split
  ·exact .one _ (by simp) (fun y hy=>by simp only[List.mem_singleton]at hy;subst hy;rfl)
  ·rename_i rs h;rw[h]at ih;exact absurd rfl ih.head.1
  ·rename_i y r rs h
   rw[h]at ih
   have hh:=ih.head.2
   split
   ·rename_i e
    have hx:∀z,z∈x::y::r->z.get f=rgOf f (x::y::r):=fun z hz=>by
     rcases List.mem_cons.1 hz with rfl|hz
     ·rfl
     ·rw[hh z hz];exact e
    cases rs with
    |nil=>exact .one _ (by simp) hx
    |cons q ps=>
     cases ih with
     |cons _ _ _ h1 h2 h3 hw=>exact .cons _ _ _ (by simp) hx (by rw[show rgOf f (x::y::r)=rgOf f (y::r)from e.symm];exact h3) hw
   ·rename_i e
    exact .cons _ _ _ (by simp) (fun z hz=>by simp only[List.mem_singleton]at hz;subst hz;rfl) (fun e2=>e e2.symm) ih
theorem runs_of{f:Nat}:∀{ps:List (List Bx)},Parts f ps->runsF f ps.flatten=ps
 |[],_=>rfl
 |p::ps,h=>by
  have ih:=runs_of h.tail
  obtain⟨h1,h2⟩:=h.head
  have hd:∀q qs,ps=q::qs->rgOf f p≠rgOf f q:=fun q qs e=>by
   subst e
   cases h with
   |cons _ _ _ _ _ h3 _=>exact h3
  have hq:∀q qs,ps=q::qs->q≠[]:=fun q qs e=>by subst e;exact h.tail.head.1
  have go:∀(p:List Bx),p≠[]->(∀x,x∈p->x.get f=rgOf f p)->(∀q qs,ps=q::qs->rgOf f p≠rgOf f q)->runsF f (p++ps.flatten)=p::ps:=by
   intro p
   induction p with
   |nil=>intro h;exact absurd rfl h
   |cons x p ih2=>
    intro _ hc hn
    rw[List.cons_append,runsF]
    cases p with
    |nil=>
     rw[List.nil_append,ih]
     cases ps with
     |nil=>rfl
     |cons q qs=>
      cases q with
      |nil=>exact absurd rfl (hq _ _ rfl)
      |cons y r=>
       have:=hn _ _ rfl
       simp only
       rw[if_neg (fun e=>this (by simp only[rgOf];exact e.symm))]
    |cons y p=>
     have e:y.get f=x.get f:=hc y (by simp)
     rw[ih2 (by simp) (fun z hz=>by rw[hc z (List.mem_cons_of_mem _ hz)];exact e.symm) (fun q qs e2=>by
      have:=hn q qs e2
      intro e3
      exact this (by rw[<-e3];exact e.symm))]
     simp only
     rw[if_pos e]
  rw[List.flatten_cons]
  exact go p h1 h2 hd
def alikeB(f:Nat)(x y:Bx):Bool:=(List.range 5).all fun i=>decide (i<f)||decide (x.get i=y.get i)
def alike(f:Nat)(a b:List Bx):Bool:=a.length==b.length&&(a.zip b).all fun q=>alikeB f q.1 q.2
theorem alikeB_iff{k:Nat}{x y:Bx}:alikeB (5-k) x y=true↔zeroTo k x=zeroTo k y:=by
 unfold alikeB
 rw[List.all_eq_true]
 constructor
 ·intro h
  refine bx_ext fun f hf=>?_
  rw[zeroTo_get hf,zeroTo_get hf]
  by_cases h5:5<=f+k
  ·rw[if_pos h5,if_pos h5]
   have:=h f (List.mem_range.2 (by omega))
   rw[Bool.or_eq_true,decide_eq_true_eq,decide_eq_true_eq]at this
   rcases this with h1|h1
   ·omega
   ·exact h1
  ·rw[if_neg h5,if_neg h5]
 ·intro h i hi
  have hi:=List.mem_range.1 hi
  rw[Bool.or_eq_true,decide_eq_true_eq,decide_eq_true_eq]
  by_cases h5:5<=i+k
  ·right
   have:(zeroTo k x).get i=(zeroTo k y).get i:=by rw[h]
   rw[zeroTo_get (by omega),zeroTo_get (by omega),if_pos h5,if_pos h5]at this
   exact this
  ·left;omega
theorem alike_iff{k:Nat}:∀{a b:List Bx},alike (5-k) a b=true↔a.map (zeroTo k)=b.map (zeroTo k)
 |[],[]=>by simp[alike]
 |[],y::b=>by simp[alike]
 |x::a,[]=>by simp[alike]
 |x::a,y::b=>by
  have ih:=alike_iff (k:=k) (a:=a) (b:=b)
  rw[alike,Bool.and_eq_true]at ih⊢
  rw[List.zip_cons_cons,List.all_cons,Bool.and_eq_true,List.map_cons,List.map_cons,List.cons.injEq,<-ih,alikeB_iff]
  simp only[List.length_cons,beq_iff_eq,Nat.add_right_cancel_iff]
  constructor
  ·rintro⟨h1,h2,h3⟩;exact⟨h2,h1,h3⟩
  ·rintro⟨h2,h1,h3⟩;exact⟨h1,h2,h3⟩
def joinB(f:Nat)(p q:List Bx):Bool:= !p.isEmpty&&(decide ((rgOf f q).lo<=(rgOf f p).hi)||(decide ((rgOf f q).lo=(rgOf f p).hi+1)&&alike (f+1) p q))
def chkR(can:List Bx->Bool)(f:Nat):List Bx->List (List Bx)->Bool
 |_,[]=>true
 |last,p::ps=> !joinB f last p&&can p&&chkR can f p ps
def canB:Nat->List Bx->Bool
 |0,l=>l.length==1
 |k+1,l=>chkR (canB k) (4-k) [] (runsF (4-k) l)
def grpOf(k:Nat)(p:List Bx):Grp (List Bx):=⟨(rgOf (4-k) p).lo,(rgOf (4-k) p).hi,p.map (zeroTo k)⟩
theorem joinB_iff{k:Nat}(hk:k<=4){p q:List Bx}(hp:p≠[]):joinB (4-k) p q=false↔(grpOf k p).hi<(grpOf k q).lo/\((grpOf k p).hi+1=(grpOf k q).lo->(grpOf k p).val≠(grpOf k q).val):=by
 have he:p.isEmpty=false:=by cases p with
  |nil=>exact absurd rfl hp
  |cons=>rfl
 have e5:4-k+1=5-k:=by omega
 rw[Bool.eq_false_iff,ne_eq,joinB,he,e5]
 simp only[Bool.not_false,Bool.true_and,Bool.or_eq_true,Bool.and_eq_true,decide_eq_true_eq,alike_iff,grpOf]
 constructor
 ·intro h
  exact⟨by omega,fun e1 e2=>h (.inr ⟨e1.symm,e2⟩)⟩
 ·rintro⟨h1,h2⟩ (h|⟨h3,h4⟩)
  ·omega
  ·exact h2 h3.symm h4
theorem chk_iff{can:List Bx->Bool}{k:Nat}(hk:k<=4):∀{ps:List (List Bx)} {last:List Bx},last≠[]->(rgOf (4-k) last).lo<=(rgOf (4-k) last).hi->(∀p,p∈ps->p≠[]/\(rgOf (4-k) p).lo<=(rgOf (4-k) p).hi)->
  (chkR can (4-k) last ps=true↔Wf ((last::ps).map (grpOf k))/\∀p,p∈ps->can p=true)
 |[],last,hl,hle,_=>by
  simp only[chkR,List.map_cons,List.map_nil,List.not_mem_nil,false_implies,implies_true,and_true,true_iff]
  exact .one _ hle
 |p::ps,last,hl,hle,h=>by
  obtain⟨hp,hple⟩:=h p (by simp)
  have ih:=chk_iff (can:=can) hk (ps:=ps) hp hple fun q hq=>h q (List.mem_cons_of_mem _ hq)
  rw[chkR,Bool.and_eq_true,Bool.and_eq_true,ih,Bool.not_eq_true',joinB_iff hk hl]
  constructor
  ·rintro⟨⟨h1,h2⟩,h3,h4⟩
   refine⟨.cons _ _ _ hle h1.1 h1.2 h3,fun q hq=>?_⟩
   rcases List.mem_cons.1 hq with rfl|hq
   ·exact h2
   ·exact h4 q hq
  ·rintro⟨h1,h2⟩
   cases h1 with
   |cons _ _ _ g1 g2 g3 hw=>exact⟨⟨⟨g2,g3⟩,h2 p (by simp)⟩,hw,fun q hq=>h2 q (List.mem_cons_of_mem _ hq)⟩
theorem chk_start{can:List Bx->Bool}{k:Nat}(hk:k<=4){ps:List (List Bx)}(h:∀p,p∈ps->p≠[]/\(rgOf (4-k) p).lo<=(rgOf (4-k) p).hi):
  chkR can (4-k) [] ps=true↔Wf (ps.map (grpOf k))/\∀p,p∈ps->can p=true:=by
 cases ps with
 |nil=>simp only[chkR,List.map_nil,List.not_mem_nil,false_implies,implies_true,and_true,true_iff];exact .nil
 |cons p ps=>
  obtain⟨hp,hple⟩:=h p (by simp)
  rw[chkR,Bool.and_eq_true,Bool.and_eq_true,chk_iff hk hp hple fun q hq=>h q (List.mem_cons_of_mem _ hq)]
  constructor
  ·rintro⟨⟨_,h2⟩,h3,h4⟩
   refine⟨h3,fun q hq=>?_⟩
   rcases List.mem_cons.1 hq with rfl|hq
   ·exact h2
   ·exact h4 q hq
  ·rintro⟨h1,h2⟩
   exact⟨⟨rfl,h2 p (by simp)⟩,h1,fun q hq=>h2 q (List.mem_cons_of_mem _ hq)⟩
theorem at_part{k:Nat}(hk:k<=4):∀{ps:List (List Bx)},Parts (4-k) ps->Wf (ps.map (grpOf k))->∀{v:Int} {p:List Bx},p∈ps->(rgOf (4-k) p).lo<=v->v<=(rgOf (4-k) p).hi->atF (4-k) v ps.flatten=p
 |[],_,_,v,p,hp,_,_=>by simp at hp
 |q::ps,hP,hw,v,p,hp,h1,h2=>by
  have filt:∀r,r∈q::ps->atF (4-k) v r=if(rgOf (4-k) r).lo<=v/\v<=(rgOf (4-k) r).hi then r else []:=fun r hr=>by
   have hc:=(hP.mem r hr).2
   split
   ·rename_i hin
    refine List.filter_eq_self.2 fun x hx=>?_
    rw[hc x hx,decide_eq_true hin.1,decide_eq_true hin.2];rfl
   ·rename_i hin
    refine List.filter_eq_nil_iff.2 fun x hx=>?_
    rw[hc x hx,Bool.and_eq_true,decide_eq_true_eq,decide_eq_true_eq];exact hin
  have happ:atF (4-k) v (q::ps).flatten=atF (4-k) v q++atF (4-k) v ps.flatten:=by
   rw[List.flatten_cons,atF,List.filter_append];rfl
  rw[happ]
  have hab:∀r,r∈ps->(rgOf (4-k) q).hi<(rgOf (4-k) r).lo:=fun r hr=>(Wf.above (l:=ps.map (grpOf k)) hw (grpOf k r) (List.mem_map_of_mem hr)).1
  have nil_of:∀{rs:List (List Bx)},(∀r,r∈rs->r∈q::ps)->(∀r,r∈rs->v<(rgOf (4-k) r).lo)->atF (4-k) v rs.flatten=[]:=by
   intro rs
   induction rs with
   |nil=>intro _ _;rfl
   |cons r rs ih=>
    intro hm hv
    rw[List.flatten_cons,atF,List.filter_append]
    have e1:=filt r (hm r (by simp))
    rw[if_neg (by have:=hv r (by simp);omega)]at e1
    have e2:=ih (fun x hx=>hm x (List.mem_cons_of_mem _ hx)) (fun x hx=>hv x (List.mem_cons_of_mem _ hx))
    rw[atF]at e1 e2
    rw[e1,e2];rfl
  rcases List.mem_cons.1 hp with rfl|hp
  ·rw[filt p (by simp),if_pos ⟨h1,h2⟩,nil_of (fun r hr=>List.mem_cons_of_mem _ hr) (fun r hr=>by have:=hab r hr;omega),List.append_nil]
  ·have:=hab p hp
   rw[filt q (by simp),if_neg (by omega),List.nil_append]
   exact at_part hk hP.tail hw.tail hp h1 h2
theorem at_nopart{k:Nat}{v:Int}:∀{ps:List (List Bx)},Parts (4-k) ps->(∀p,p∈ps->¬((rgOf (4-k) p).lo<=v/\v<=(rgOf (4-k) p).hi))->atF (4-k) v ps.flatten=[]
 |[],_,_=>rfl
 |q::ps,hP,h=>by
  rw[List.flatten_cons,atF,List.filter_append]
  have e1:q.filter (fun b=>decide ((b.get (4-k)).lo<=v)&&decide (v<=(b.get (4-k)).hi))=[]:=List.filter_eq_nil_iff.2 fun x hx=>by
   rw[hP.head.2 x hx,Bool.and_eq_true,decide_eq_true_eq,decide_eq_true_eq];exact h q (by simp)
  have e2:=at_nopart hP.tail fun p hp=>h p (List.mem_cons_of_mem _ hp)
  rw[atF]at e2
  rw[e1,e2];rfl
def orB(x y:Bool):Bool:=x||y
theorem cano_nils(op:Bool->Bool->Bool)(h:op false false=false)(k:Nat):cano op k [] []=[]:=cano_dead op k [] [] fun p q hp hq=>by
 have h1:p=false:=by cases p with
  |false=>rfl
  |true=>exact absurd (hp rfl) (by simp)
 have h2:q=false:=by cases q with
  |false=>rfl
  |true=>exact absurd (hq rfl) (by simp)
 rw[h1,h2,h]
theorem flatG_parts{k:Nat}(hk:k<=4):∀{ps:List (List Bx)},Parts (4-k) ps->flatG (4-k) (ps.map (grpOf k))=ps.flatten.map (zeroTo (k+1))
 |[],_=>rfl
 |p::ps,h=>by
  have ih:=flatG_parts hk h.tail
  have e:flatG (4-k) ((p::ps).map (grpOf k))=(p.map (zeroTo k)).map (fun b=>b.put (4-k) (mkR (rgOf (4-k) p).lo (rgOf (4-k) p).hi))++flatG (4-k) (ps.map (grpOf k)):=by
   simp only[flatG,List.map_cons,List.flatMap_cons,grpOf]
  rw[e,ih,List.flatten_cons,List.map_append,mkR_self,List.map_map]
  congr 1
  refine List.map_congr_left fun x hx=>?_
  simp only[Function.comp]
  rw[<-h.head.2 x hx,zeroTo_put hk]
theorem canB_iff:∀(k:Nat) (l:List Bx),k<=5->(∀x,x∈l->∀f,f<=4->5<=f+k->(x.get f).lo<=(x.get f).hi/\(x.get f).hi<=topF f)->(k=0->l≠[])->(canB k l=true↔cano orB k l []=l.map (zeroTo k))
 |0,l,_,_,hne=>by
  have hne:=hne rfl
  rw[canB,cano]
  cases l with
  |nil=>exact absurd rfl hne
  |cons x l=>
   simp only[List.isEmpty_cons,Bool.not_false,List.isEmpty_nil,Bool.not_true,orB,Bool.or_false,if_true]
   cases l with
   |nil=>simp only[List.length_cons,List.length_nil,beq_self_eq_true,List.map_cons,List.map_nil,true_iff];rfl
   |cons y l=>simp
 |k+1,l,hk,hv,_=>by
  have hP:=runs_parts (4-k) l
  have hfl:=runs_flat (4-k) l
  have hmem:∀p,p∈runsF (4-k) l->∀x,x∈p->x∈l:=fun p hp x hx=>by rw[<-hfl];exact List.mem_flatten.2 ⟨p,hp,hx⟩
  have hrg:∀p,p∈runsF (4-k) l->(rgOf (4-k) p).lo<=(rgOf (4-k) p).hi/\(rgOf (4-k) p).hi<=topF (4-k):=fun p hp=>by
   obtain⟨h1,h2⟩:=hP.mem p hp
   cases p with
   |nil=>exact absurd rfl h1
   |cons x p=>exact hv x (hmem _ hp x (by simp)) (4-k) (by omega) (by omega)
  have hvp:∀p,p∈runsF (4-k) l->∀x,x∈p->∀f,f<=4->5<=f+k->(x.get f).lo<=(x.get f).hi/\(x.get f).hi<=topF f:=fun p hp x hx f hf h5=>hv x (hmem p hp x hx) f hf (by omega)
  have g:=cano_wf orB k l []
  rw[canB,chk_start (by omega) fun p hp=>⟨(hP.mem p hp).1,(hrg p hp).1⟩,cano_succ]
  generalize runsF (4-k) l=ps at*
  constructor
  ·rintro⟨hw,hc⟩
   have g2:GInv (restAt orB k l []) (ps.map (grpOf k)) (topF (4-k)+1):=by
    refine⟨hw,fun v=>?_,fun x hx=>?_,fun x hx=>?_⟩
    ·by_cases hin:∃p,p∈ps/\(rgOf (4-k) p).lo<=v/\v<=(rgOf (4-k) p).hi
     ·obtain⟨p,hp,p1,p2⟩:=hin
      have hb:=hrg p hp
      have hl0:=(rgOf (4-k) p).l0
      rw[hw.at_mem (g:=grpOf k p) (List.mem_map_of_mem hp) p1 p2,if_pos (by omega),lab,restAt,<-hfl,at_part (by omega) hP hw hp p1 p2]
      have hI:=(canB_iff k p (by omega) (hvp p hp) (fun _=>(hP.mem p hp).1)).1 (hc p hp)
      have hnil:atF (4-k) v []=[]:=rfl
      rw[hnil,hI]
      cases p with
      |nil=>exact absurd rfl (hP.mem _ hp).1
      |cons x p=>rfl
     ·have hno:∀p,p∈ps->¬((rgOf (4-k) p).lo<=v/\v<=(rgOf (4-k) p).hi):=fun p hp hh=>hin ⟨p,hp,hh⟩
      have e1:gAt (ps.map (grpOf k)) v=none:=gAt_none fun x hx=>by
       obtain⟨p,hp,rfl⟩:=List.mem_map.1 hx
       have:=hno p hp
       simp only[grpOf];omega
      have e2:restAt orB k l [] v=[]:=by
       rw[restAt,<-hfl,at_nopart hP hno]
       exact cano_nils orB rfl k
      rw[e1,lab,e2]
      split<;>rfl
    ·obtain⟨p,hp,rfl⟩:=List.mem_map.1 hx
     have:=hrg p hp
     have hl0:=(rgOf (4-k) p).l0
     simp only[grpOf];omega
    ·obtain⟨p,hp,rfl⟩:=List.mem_map.1 hx
     simp only[grpOf,ne_eq,List.map_eq_nil_iff]
     exact(hP.mem p hp).1
   rw[g.same g2,flatG_parts (by omega) hP,hfl]
  ·intro he
   generalize groupsOf (restAt orB k l []) (topF (4-k)) (starts (rngs (4-k) l []) (topF (4-k)))=G at g he
   have hb:=topF_pos (4-k)
   -- the parts that the groups are
   have hGok:∀x,x∈G->∀y,y∈x.val->y.put (4-k) zR=y:=fun x hx y hy=>by
    have hl:=g.low x hx
    have hle:x.lo<=x.hi:=g.wf.le x hx
    have hat:=g.wf.at_mem hx (Int.le_refl x.lo) hle
    rw[g.at_,if_pos ⟨hl.1,by omega⟩,lab]at hat
    split at hat
    ·cases hat
    ·have hval:=Option.some.inj hat
     rw[<-hval]at hy
     exact okK_zero (by omega) (cano_ok orB k _ _ (by omega) y hy)
   have hpg:∀(G:List (Grp (List Bx))),Wf G->(∀x,x∈G->x.val≠[]/\0<=x.lo/\x.hi<=4294967295)->Parts (4-k) (G.map fun x=>x.val.map fun b=>b.put (4-k) (mkR x.lo x.hi)):=by
    intro G
    have rgv:∀x:Grp (List Bx),x.val≠[]->rgOf (4-k) (x.val.map fun b=>b.put (4-k) (mkR x.lo x.hi))=mkR x.lo x.hi:=fun x hx=>by
     cases hval:x.val with
     |nil=>exact absurd hval hx
     |cons b l=>exact get_put (by omega)
    have cst:∀x:Grp (List Bx),x.val≠[]->∀y,y∈(x.val.map fun b=>b.put (4-k) (mkR x.lo x.hi))->y.get (4-k)=rgOf (4-k) (x.val.map fun b=>b.put (4-k) (mkR x.lo x.hi)):=fun x hx y hy=>by
     obtain⟨b,_,rfl⟩:=List.mem_map.1 hy
     rw[rgv x hx,get_put (by omega)]
    induction G with
    |nil=>intro _ _;exact .nil
    |cons x G ih=>
     intro hw hx
     have hx1:=hx x (by simp)
     have ih:=ih hw.tail fun y hy=>hx y (List.mem_cons_of_mem _ hy)
     cases G with
     |nil=>exact .one _ (by simpa using hx1.1) (cst x hx1.1)
     |cons y G=>
      have hy1:=hx y (by simp)
      refine .cons _ _ _ (by simpa using hx1.1) (cst x hx1.1) ?_ ih
      rw[rgv x hx1.1,rgv y hy1.1]
      have h1:=hw.head
      have h2:=hw.tail.head
      have h3:=hw.above y (by simp)
      intro e
      have:=congrArg Rg.lo e
      rw[mkR_lo (by omega) (by omega) (by omega) (by omega),mkR_lo (by omega) (by omega) (by omega) (by omega)]at this
      omega
   have hGP:=hpg G g.wf fun x hx=>⟨g.full x hx,(g.low x hx).1,by have:=g.low x hx;omega⟩
   have hr1:=runs_of hGP
   have hfG:(G.map fun x=>x.val.map fun b=>b.put (4-k) (mkR x.lo x.hi)).flatten=flatG (4-k) G:=by rw[flatG,List.flatMap]
   rw[hfG,he]at hr1
   have hmapP:Parts (4-k) (ps.map fun p=>p.map (zeroTo (k+1))):=by
    have hget:∀x:Bx,(zeroTo (k+1) x).get (4-k)=x.get (4-k):=fun x=>by rw[zeroTo_get (by omega),if_pos (by omega)]
    have hro:∀p:List Bx,p≠[]->rgOf (4-k) (p.map (zeroTo (k+1)))=rgOf (4-k) p:=fun p hp=>by
     cases p with
     |nil=>exact absurd rfl hp
     |cons x p=>exact hget x
    have hcst:∀p:List Bx,p≠[]->(∀x,x∈p->x.get (4-k)=rgOf (4-k) p)->∀y,y∈p.map (zeroTo (k+1))->y.get (4-k)=rgOf (4-k) (p.map (zeroTo (k+1))):=fun p hp hc y hy=>by
     obtain⟨x,hx,rfl⟩:=List.mem_map.1 hy
     rw[hget,hro p hp,hc x hx]
    have go:∀{qs:List (List Bx)},Parts (4-k) qs->Parts (4-k) (qs.map fun p=>p.map (zeroTo (k+1))):=by
     intro qs hq
     induction hq with
     |nil=>exact .nil
     |one p h1 h2=>exact .one _ (by simpa using h1) (hcst p h1 h2)
     |cons p q qs h1 h2 h3 hw ih=>exact .cons _ _ _ (by simpa using h1) (hcst p h1 h2) (by rw[hro p h1,hro q hw.head.1];exact h3) ih
    exact go hP
   have hr2:=runs_of hmapP
   have hfl2:(ps.map fun p=>p.map (zeroTo (k+1))).flatten=l.map (zeroTo (k+1)):=by rw[<-hfl,List.map_flatten]
   rw[hfl2,hr1]at hr2
   -- so the groups are those of the parts
   have hgrp:ps.map (grpOf k)=G:=by
    have e:∀(ps:List (List Bx)) (G:List (Grp (List Bx))),(∀p,p∈ps->p≠[])->(∀x,x∈G->(x.val≠[]/\0<=x.lo/\x.lo<=4294967295/\0<=x.hi/\x.hi<=4294967295)/\∀y,y∈x.val->y.put (4-k) zR=y)->
      (G.map fun x=>x.val.map fun b=>b.put (4-k) (mkR x.lo x.hi))=(ps.map fun p=>p.map (zeroTo (k+1)))->ps.map (grpOf k)=G:=by
     intro ps
     induction ps with
     |nil=>intro G _ _ h;cases G with
      |nil=>rfl
      |cons=>simp at h
     |cons p ps ih=>
      intro G hne hx h
      cases G with
      |nil=>simp at h
      |cons x G=>
       rw[List.map_cons,List.map_cons,List.cons.injEq]at h
       rw[List.map_cons,ih G (fun q hq=>hne q (List.mem_cons_of_mem _ hq)) (fun y hy=>hx y (List.mem_cons_of_mem _ hy)) h.2]
       congr 1
       obtain⟨⟨x1,x2,x3,x4,x5⟩,x6⟩:=hx x (by simp)
       have h1:=h.1
       have hval:p.map (zeroTo k)=x.val:=by
        have:=congrArg (List.map fun b=>b.put (4-k) zR) h1
        rw[List.map_map,List.map_map]at this
        rw[show(x.val.map ((fun b=>b.put (4-k) zR)∘fun b=>b.put (4-k) (mkR x.lo x.hi)))=x.val by
         refine(List.map_congr_left fun y hy=>?_).trans (List.map_id _)
         simp only[Function.comp]
         rw[put_put];exact x6 y hy]at this
        rw[this]
        refine List.map_congr_left fun y hy=>?_
        simp only[Function.comp]
        rw[put_zeroTo (by omega)]
       have hrgo:rgOf (4-k) p=mkR x.lo x.hi:=by
        cases p with
        |nil=>exact absurd rfl (hne _ (by simp))
        |cons y p=>
         cases hxv:x.val with
         |nil=>exact absurd hxv x1
         |cons b l=>
          rw[hxv,List.map_cons,List.map_cons,List.cons.injEq]at h1
          have:(b.put (4-k) (mkR x.lo x.hi)).get (4-k)=(zeroTo (k+1) y).get (4-k):=by rw[h1.1]
          rw[get_put (by omega),zeroTo_get (by omega),if_pos (by omega)]at this
          exact this.symm
       cases x
       simp only at hval hrgo x2 x3 x4 x5
       unfold grpOf
       rw[hval,hrgo,mkR_lo (by omega) (by omega) (by omega) (by omega),mkR_hi (by omega) (by omega) (by omega) (by omega)]
    refine e ps G (fun p hp=>(hP.mem p hp).1) (fun x hx=>⟨⟨g.full x hx,?_⟩,hGok x hx⟩) hr2
    have hl:=g.low x hx
    have:=g.wf.le x hx
    omega
   refine⟨by rw[hgrp];exact g.wf,fun p hp=>?_⟩
   refine(canB_iff k p (by omega) (hvp p hp) (fun _=>(hP.mem p hp).1)).2 ?_
   have hw:Wf (ps.map (grpOf k)):=by rw[hgrp];exact g.wf
   have hb1:=hrg p hp
   have hl0:=(rgOf (4-k) p).l0
   have hat:=hw.at_mem (g:=grpOf k p) (List.mem_map_of_mem hp) (Int.le_refl _) hb1.1
   rw[hgrp,g.at_,if_pos (by simp only[grpOf];omega),lab]at hat
   split at hat
   ·cases hat
   ·have hval:=Option.some.inj hat
    simp only[grpOf]at hval
    rw[restAt,<-hfl,at_part (by omega) hP hw hp (Int.le_refl _) hb1.1]at hval
    exact hval
end Go.Proofs.YtokmdghjgegclaaGreatDoor
namespace Go.Vm
def frcP:List (Nat×Nat)->(List (Nat×Nat)->Prop)->Prop
 |[],K=>K []
 |(i,j)::r,K=>frcN i fun i'=>frcN j fun j'=>frcP r fun r'=>K ((i',j')::r')
theorem frcP_eq:∀(ρ:List (Nat×Nat)) (K:List (Nat×Nat)->Prop),frcP ρ K=K ρ
 |[],K=>rfl
 |(i,j)::r,K=>by simp only[frcP,frcN_eq,frcP_eq r]
abbrev Names:=List (Nat×Nat)
def addK(ρ:Names)(i j:Nat)(K:Names->Prop):Prop:=
 match get ρ i with
 |some _=>K ρ
 |none=>frcN i fun i=>frcN j fun j=>K ((i,j)::ρ)
theorem addK_ex{ρ:Names}{i j:Nat}{K:Names->Prop}(h:addK ρ i j K):∃ρ,K ρ:=by
 unfold addK at h
 split at h
 ·exact⟨_,h⟩
 ·rw[frcN_eq,frcN_eq]at h;exact⟨_,h⟩
def pair0K(ρ:Names)(x y:AV)(K:Names->Prop):Prop:=
 match x,y with
 |.op i _,.op j _=>addK ρ i j K
 |.ep i _ _ _,.ep j _ _ _=>addK ρ i j K
 |.os i _ _ _,.os j _ _ _=>addK ρ i j K
 |.mp i,.mp j=>addK ρ i j K
 |.dfr i _,.dfr j _=>addK ρ i j K
 |_,_=>K ρ
theorem pair0K_ex{ρ:Names}{x y:AV}{K:Names->Prop}(h:pair0K ρ x y K):∃ρ,K ρ:=by
 unfold pair0K at h
 split at h
 ·exact addK_ex h
 ·exact addK_ex h
 ·exact addK_ex h
 ·exact addK_ex h
 ·exact addK_ex h
 ·exact⟨_,h⟩
def pair0LK:List AV->List AV->Names->(Names->Prop)->Prop
 |x::xs,y::ys,ρ,K=>pair0K ρ x y fun ρ=>pair0LK xs ys ρ K
 |_,_,ρ,K=>K ρ
theorem pair0LK_ex:∀{xs ys:List AV} {ρ:Names} {K:Names->Prop},pair0LK xs ys ρ K->∃ρ,K ρ
 |x::xs,y::ys,ρ,K,h=>by
  obtain⟨ρ',h'⟩:=pair0K_ex h
  exact pair0LK_ex h'
 |[],ys,ρ,K,h=>by simp only[pair0LK]at h;exact⟨_,h⟩
 |x::xs,[],ρ,K,h=>by simp only[pair0LK]at h;exact⟨_,h⟩
def pair1K(ρ:Names)(x y:AV)(K:Names->Prop):Prop:=
 match x,y with
 |.fn _ a b,.fn _ c d=>pair0LK a c ρ fun ρ=>pair0LK b d ρ K
 |x,y=>pair0K ρ x y K
theorem pair1K_ex{ρ:Names}{x y:AV}{K:Names->Prop}(h:pair1K ρ x y K):∃ρ,K ρ:=by
 unfold pair1K at h
 split at h
 ·obtain⟨ρ',h'⟩:=pair0LK_ex h;exact pair0LK_ex h'
 ·exact pair0K_ex h
def pairLK:List AV->List AV->Names->(Names->Prop)->Prop
 |x::xs,y::ys,ρ,K=>pair1K ρ x y fun ρ=>pairLK xs ys ρ K
 |_,_,ρ,K=>K ρ
theorem pairLK_ex:∀{xs ys:List AV} {ρ:Names} {K:Names->Prop},pairLK xs ys ρ K->∃ρ,K ρ
 |x::xs,y::ys,ρ,K,h=>by
  obtain⟨ρ',h'⟩:=pair1K_ex h
  exact pairLK_ex h'
 |[],ys,ρ,K,h=>by simp only[pairLK]at h;exact⟨_,h⟩
 |x::xs,[],ρ,K,h=>by simp only[pairLK]at h;exact⟨_,h⟩
def pairAK(ρ:Names)(x y:AV)(K:Names->Prop):Prop:=
 match x,y with
 |.agg xs,.agg ys=>pairLK xs ys ρ K
 |.fn _ a b,.fn _ c d=>pairLK a c ρ fun ρ=>pairLK b d ρ K
 |x,y=>pair1K ρ x y K
theorem pairAK_ex{ρ:Names}{x y:AV}{K:Names->Prop}(h:pairAK ρ x y K):∃ρ,K ρ:=by
 unfold pairAK at h
 split at h
 ·exact pairLK_ex h
 ·obtain⟨ρ',h'⟩:=pairLK_ex h;exact pairLK_ex h'
 ·exact pair1K_ex h
def pairSK(σ:St):List (Nat×AV)->Names->(Names->Prop)->Prop
 |[],ρ,K=>K ρ
 |(t,x)::r,ρ,K=>match get σ.s t with
  |some y=>pairAK ρ x y fun ρ=>pairSK σ r ρ K
  |none=>pairSK σ r ρ K
theorem pairSK_ex{σ:St}:∀{l:List (Nat×AV)} {ρ:Names} {K:Names->Prop},pairSK σ l ρ K->∃ρ,K ρ
 |[],ρ,K,h=>⟨_,h⟩
 |(t,x)::r,ρ,K,h=>by
  simp only[pairSK]at h
  split at h
  ·obtain⟨ρ',h'⟩:=pairAK_ex h;exact pairSK_ex h'
  ·exact pairSK_ex h
def pairHK(s σ:St):Names->Names->(Names->Prop)->Prop
 |[],ρ,K=>K ρ
 |(i,j)::r,ρ,K=>match get s.h i,get σ.h j with
  |some (.box cs),some (.box ds)=>pairLK cs ds ρ fun ρ=>pairHK s σ r ρ K
  |_,_=>pairHK s σ r ρ K
theorem pairHK_ex{s σ:St}:∀{l ρ:Names} {K:Names->Prop},pairHK s σ l ρ K->∃ρ,K ρ
 |[],ρ,K,h=>⟨_,h⟩
 |(i,j)::r,ρ,K,h=>by
  simp only[pairHK]at h
  split at h
  ·obtain⟨ρ',h'⟩:=pairLK_ex h;exact pairHK_ex h'
  ·exact pairHK_ex h
def idP:Nat->Names
 |0=>[]
 |k+1=>(k,k)::idP k
def autoK(p:Nat)(s σ:St)(K:Names->Prop):Prop:=
 frcP (idP p) fun ρ=>pairSK σ s.s ρ fun a=>pairHK s σ a a fun b=>pairHK s σ b b fun c=>match Nat.beq c.length b.length with
  |true=>K c
  |false=>pairHK s σ c c K
theorem Le.auto{p:Nat}{s σ:St}(h:autoK p s σ fun ρ=>(injB ρ&&(belowB s.n ρ&&(fixB ρ p&&defB s.s σ.s)))=true/\(LeS ρ s.s σ/\LeH ρ s.h σ)):Le p s σ:=by
 unfold autoK at h
 rw[frcP_eq]at h
 obtain⟨a,h⟩:=pairSK_ex h
 obtain⟨b,h⟩:=pairHK_ex h
 obtain⟨c,h⟩:=pairHK_ex h
 split at h
 ·exact⟨c,h⟩
 ·obtain⟨d,h⟩:=pairHK_ex h
  exact⟨d,h⟩
theorem leA{p:Nat}{s σ:St}(h:Le p s σ:=by(refine Le.auto ?_;repeat' ((conv=>whnf);first|with_reducible refine And.intro ?_ ?_|with_reducible exact True.intro|rfl));fail_if_success have:=True.intro):Le p s σ:=h
theorem in_c{i:Int}{len:Nat}{K:Nat->Prop}(h:decide (0<=i/\i.toNat<len)=true)(hk:K i.toNat):In i len K:=by
 have h:=of_decide_eq_true h
 exact In.intro i.toNat (by omega) h.2 hk
theorem ix_set{xs:List AV}{i:Nat}{x:AV}{K:AV->Prop}(h:i<xs.length)(hk:K x):Ix (xs.set i x) i K:=Ix.intro (by rw[List.getElem?_set_self h]) hk
theorem Weak.agg{xs ys:List AV}(h:WeakL xs ys):Weak (.agg xs) (.agg ys):=fun E w ι v hr=>by
 cases hr with
 |agg _ c hs hc=>
  have:=h.rel (c:=c) ⟨hs,hc⟩
  exact .agg _ _ this.1 this.2
end Go.Vm
