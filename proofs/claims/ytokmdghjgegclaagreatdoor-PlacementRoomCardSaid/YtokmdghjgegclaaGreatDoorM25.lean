/- With more capacity everything is placed that was placed before, and with enough of it by the ingress tables: the statement PlacementRoomCardSaid holds, for every input, without a condition of ours (its card ties the package-level variables to the program's text). -/
import Derived.Test.YtokmdghjgegclaaGreatDoorM24
set_option linter.unusedVariables false
set_option linter.unusedSimpArgs false
set_option maxRecDepth 100000
set_option maxHeartbeats 4000000
namespace Go.Proofs.YtokmdghjgegclaaGreatDoor
open Go Go.Vm
/-! ### Two boxes joined -/
theorem two_cnt{k:Nat}{x y:Bx}{st:List Int}(hs:st.Pairwise (· < ·))(hf:∀e,e∈st->FromB (4-k) [x] [y] e):(st.filter fun e=>inR (x.get (4-k)) e||inR (y.get (4-k)) e).length<=3:=by
 have hsub:=nodup_sub (filter_nodup hs (fun e=>inR (x.get (4-k)) e||inR (y.get (4-k)) e)) (m:=[(x.get (4-k)).lo,(y.get (4-k)).lo,min (x.get (4-k)).hi (y.get (4-k)).hi+1]) fun e he=>by
  obtain⟨h1,h2⟩:=List.mem_filter.1 he
  rw[Bool.or_eq_true,inR_iff,inR_iff]at h2
  have x0:=(x.get (4-k)).l0
  have y0:=(y.get (4-k)).l0
  simp only[List.mem_cons,List.not_mem_nil,or_false]
  rcases hf e h1 with h|⟨z,hz,h⟩|⟨z,hz,h⟩
  ·omega
  ·rw[List.mem_singleton.1 hz]at h;omega
  ·rw[List.mem_singleton.1 hz]at h;omega
 simpa using hsub
theorem one_or{k:Nat}(hk:k<=5){x:Bx}(hx:x.ok):(cano orB k [x] []).length<=1/\(cano orB k [] [x]).length<=1:=by
 have h:=boundO k [x] hk (cn_one k hk hx)
 refine⟨h,?_⟩
 rw[cano_ext2 orB orB k [] [x] [x] [] hk fun p hp=>by rw[memK_nil,orB,orB,Bool.or_comm]]
 exact h
theorem two_len{x y:Bx}(hx:x.ok)(hy:y.ok):∀k,k<=5->(cano orB k [x] [y]).length<=2*k+1
 |0,_=>by rw[cano];split<;>simp
 |k+1,hk=>by
  rw[cano_succ,flatG_len]
  refine Nat.le_trans (groups_le _ _ _) ?_
  have hs:=(starts_inv (rngs (4-k) [x] [y]) (topF_pos (4-k)).1).sorted
  have hf:=from_starts (4-k) [x] [y] (topF (4-k))
  generalize starts (rngs (4-k) [x] [y]) (topF (4-k))=st at*
  have h3:=two_cnt hs hf
  have h1:=cnt3_le hs hf (cn_one (k+1) hk hx) (cn_one (k+1) hk hy) (x:=x) (y:=y) (by simp) (by simp)
  have hr:∀e,e∈st->(restAt orB k [x] [y] e).length<=2*k*(if inR (x.get (4-k)) e&&inR (y.get (4-k)) e then 1 else 0)+(if inR (x.get (4-k)) e||inR (y.get (4-k)) e then 1 else 0):=fun e _=>by
   have ih:=two_len hx hy k (by omega)
   have ox:=one_or (k:=k) (by omega) hx
   have oy:=one_or (k:=k) (by omega) hy
   rw[restAt,atF_one,atF_one]
   cases inR (x.get (4-k)) e<;>cases inR (y.get (4-k)) e
   ·simp[cano_nils orB rfl k]
   ·simpa using oy.2
   ·simpa using ox.1
   ·simpa using ih
  refine Nat.le_trans (sum_mono hr) ?_
  rw[sum_add,sum_mulL,sum_ite,sum_ite]
  rw[List.filter_filter]at h1
  have h1':(st.filter fun e=>inR (x.get (4-k)) e&&inR (y.get (4-k)) e).length<=1:=by
   refine Nat.le_trans (Nat.le_of_eq ?_) h1
   refine congrArg List.length (List.filter_congr fun e _=>?_)
   rw[Bool.and_comm]
  have:=Nat.mul_le_mul_left (2*k) h1'
  omega
theorem giv_two{l:List Bx}(h:l.length<=2):(givP l).1.length<=11:=by
 unfold givP
 split
 ·simp only;omega
 ·have hv:(vldB l).length<=2:=Nat.le_trans (List.length_filter_le ..) h
  have hok:∀x,x∈vldB l->x.ok:=fun x hx=>by simpa using(List.mem_filter.1 hx).2
  by_cases he:(makeP l).2=0
  ·have hs:=setB_makeP l
   have e:(makeP l).1=cano orB 5 (vldB l) []:=by
    rw[<-setB_same hs]
    exact cano_ext2 orB orB 5 _ _ _ _ (Nat.le_refl _) fun q hq=>by
     rw[memK_nil,makeP,makeGo_eq hq l [] he,memK_nil,Bool.false_or]
   rw[e]
   rcases hz:vldB l with _|⟨x,_|⟨y,_|⟨z,r⟩⟩⟩
   ·rw[cano_nils orB rfl 5];simp
   ·exact Nat.le_trans (one_or (Nat.le_refl _) (hok x (by rw[hz];simp))).1 (by decide)
   ·have:=two_len (hok x (by rw[hz];simp)) (hok y (by rw[hz];simp)) 5 (Nat.le_refl _)
    rw[cano_ext2 orB orB 5 [x,y] [] [x] [y] (Nat.le_refl _) fun q hq=>by simp[memK,orB]]
    exact this
   ·rw[hz]at hv;simp only[List.length_cons]at hv;omega
  ·rw[makeP,makeGo_err l [] he];simp
/-! ### Pairs of what is cut by ranges -/
theorem inK_full{b:Bx}(h0:b.r0=fullB.r0)(h1:b.r1=fullB.r1){q:Nat->Int}(hq:InP q):inK q 5 b=inK q 3 b:=by
 have q0:=hq 0;have q1:=hq 1
 have t0:topF 0=4294967295:=rfl
 have t1:topF 1=4294967295:=rfl
 have e0:fullB.r0.lo=0/\fullB.r0.hi=4294967295:=by decide
 have e1:fullB.r1.lo=0/\fullB.r1.hi=4294967295:=by decide
 have d0:(decide ((b.get 0).lo<=q 0)&&decide (q 0<=(b.get 0).hi))=true:=by
  show(decide (b.r0.lo<=q 0)&&decide (q 0<=b.r0.hi))=true
  rw[h0,Bool.and_eq_true,decide_eq_true_eq,decide_eq_true_eq];omega
 have d1:(decide ((b.get 1).lo<=q 1)&&decide (q 1<=(b.get 1).hi))=true:=by
  show(decide (b.r1.lo<=q 1)&&decide (q 1<=b.r1.hi))=true
  rw[h1,Bool.and_eq_true,decide_eq_true_eq,decide_eq_true_eq];omega
 show(decide ((b.get 0).lo<=q 0)&&decide (q 0<=(b.get 0).hi)&&(decide ((b.get 1).lo<=q 1)&&decide (q 1<=(b.get 1).hi)&&inK q 3 b))=inK q 3 b
 rw[d0,d1];rfl
theorem boxI_full{i:Nt}{b:Bx}(h:b∈boxesI i):b.r0=fullB.r0/\b.r1=fullB.r1:=by
 rcases List.mem_append.1 h with h|h
 ·simp only[initS,List.mem_cons,List.not_mem_nil,or_false]at h
  rcases h with rfl|rfl|rfl|rfl|rfl|rfl|rfl|rfl<;>exact⟨rfl,rfl⟩
 ·obtain⟨d,_,h⟩:=List.mem_flatMap.1 h
  obtain⟨y,_,rfl⟩:=List.mem_map.1 h
  exact⟨rfl,rfl⟩
def svcI(i:Nt):List (Int×Rg):=i.svcs.flatMap fun d=>d.items.map fun y=>(wu y.proto,y.ports)
theorem inK_hdr{q:Nat->Int}(hq:InP q)(y:It):inK q 3 (hdrX y)=true↔q 2=wu y.proto/\y.ports.lo<=q 4/\q 4<=y.ports.hi:=by
 have h3:=(inP_b hq).2.1
 have e3:fullB.r3.lo=0/\fullB.r3.hi=65535:=by decide
 simp only[inK,hdrX,Bx.get,Nat.sub_zero,Nat.reduceSub,Bool.and_true,Bool.and_eq_true,decide_eq_true_eq]
 omega
theorem memK_w4{q:Nat->Int}(w:Bx):memK q 4 [w]=(inR w.r1 (q 1)&&inK q 3 w):=by
 simp[memK,inK,inR,Bx.get]
section
variable {t:Tp} {i:Nt} {A:List Bx}
theorem inR_iff_eq{L:List Rg}{u v:Int}(h:∀r,r∈L->((r.lo<=u/\u<=r.hi)↔(r.lo<=v/\v<=r.hi))):∀r,r∈L->inR r u=inR r v:=fun r hr=>by
 rw[Bool.eq_iff_iff,inR_iff,inR_iff];exact h r hr
theorem pair_len(hR:Resp t i A)(hini:∀q,InP q->memK q 5 A=true->memK q 5 initS=true)(hk:∀x,x∈svcI i->kindI x)(h4:(svcI i).length<=4){r s:Rg}(hr:r∈rgsI t i)(hs:s∈rgsI t i):
  (cano anB 5 A [btwX r s]).length<=pieces (rgsI t i) 4294967295 r*(pieces (rgsI t i) 4294967295 s*16):=by
 have low:∀{q q':Nat->Int},InP q->InP q'->q 2=q' 2->q 3=q' 3->q 4=q' 4->∀b,b∈boxesI i->inK q 5 b=inK q' 5 b:=fun {q q'} hq hq' e2 e3 e4 b hb=>by
  rw[inK_full (boxI_full hb).1 (boxI_full hb).2 hq,inK_full (boxI_full hb).1 (boxI_full hb).2 hq']
  refine inK_congr 3 b (by omega) fun f h4 h5=>?_
  obtain rfl|rfl|rfl:f=2\/f=3\/f=4:=by omega
  ·exact e2
  ·exact e3
  ·exact e4
 refine cano_len_box 4 A (btwX r s) (rgsI t i) (fun u v u0 u1 v0 v1 huv=>rest_ext (k:=4) (by omega) (fun p hp=>?_) fun p hp=>?_) _ fun e he e0 e1=>?_
 ·exact hR _ _ (inP_set hp u0 u1) (inP_set hp v0 v1) ⟨inR_iff_eq huv,fun _ _=>rfl,low (inP_set hp u0 u1) (inP_set hp v0 v1) rfl rfl rfl⟩
 ·show memK (setF p 0 u) 5 [btwX r s]=memK (setF p 0 v) 5 [btwX r s]
  have h1:∀q,memK q 5 [btwX r s]=inK q 5 (btwX r s):=fun q=>by simp[memK]
  rw[h1,h1,inK_btw (inP_set hp u0 u1),inK_btw (inP_set hp v0 v1)]
  show(inR r u&&inR s (p 1))=(inR r v&&inR s (p 1))
  rw[inR_iff_eq huv r hr]
 have he':inR r e=true:=he
 have hat:restAt anB 4 A [btwX r s] e=cano anB 4 (atF 0 e A) [btwX r s]:=by
  show cano anB 4 (atF 0 e A) (atF 0 e [btwX r s])=_
  rw[atF_one,show(btwX r s).get 0=r from rfl,if_pos he']
 rw[hat]
 have pt:∀p u,memK (setF p 1 u) 4 (atF 0 e A)=memK (setF (setF p 1 u) 0 e) 5 A:=fun p u=>memK_at (k:=4) (by omega) e A
 refine cano_len_box 3 (atF 0 e A) (btwX r s) (rgsI t i) (fun u v u0 u1 v0 v1 huv=>rest_ext (k:=3) (by omega) (fun p hp=>?_) fun p hp=>?_) _ fun d hd d0 d1=>?_
 ·show memK (setF p 1 u) 4 (atF 0 e A)=memK (setF p 1 v) 4 (atF 0 e A)
  rw[pt,pt]
  have q1:=inP_set (inP_set hp (f:=1) u0 u1) (f:=0) e0 e1
  have q2:=inP_set (inP_set hp (f:=1) v0 v1) (f:=0) e0 e1
  exact hR _ _ q1 q2 ⟨fun _ _=>rfl,inR_iff_eq huv,low q1 q2 rfl rfl rfl⟩
 ·show memK (setF p 1 u) 4 [btwX r s]=memK (setF p 1 v) 4 [btwX r s]
  rw[memK_w4,memK_w4]
  show(inR s u&&inK (setF p 1 u) 3 (btwX r s))=(inR s v&&inK (setF p 1 v) 3 (btwX r s))
  rw[inR_iff_eq huv s hs,inK_congr (p:=setF p 1 u) (q:=setF p 1 v) 3 (btwX r s) (by omega) fun f h4 h5=>by rw[setF_ne (by omega),setF_ne (by omega)]]
 have hd':inR s d=true:=hd
 have hat:restAt anB 3 (atF 0 e A) [btwX r s] d=cano anB 3 (atF 1 d (atF 0 e A)) [btwX r s]:=by
  show cano anB 3 (atF 1 d (atF 0 e A)) (atF 1 d [btwX r s])=_
  rw[atF_one,show(btwX r s).get 1=s from rfl,if_pos hd']
 have hf:∀p,InP p->memK p 3 [btwX r s]=true:=fun p hp=>by
  have h2:=hp 2;have h3:=hp 3;have h4:=hp 4
  have e2:fullB.r2.lo=0/\fullB.r2.hi=255:=by decide
  have e3:fullB.r3.lo=0/\fullB.r3.hi=65535:=by decide
  have e4:fullB.r4.lo=0/\fullB.r4.hi=65535:=by decide
  have t2:topF 2=255:=rfl
  have t3:topF 3=65535:=rfl
  have t4:topF 4=65535:=rfl
  simp only[memK,List.any_cons,List.any_nil,Bool.or_false,inK,btwX,Bx.get,Nat.sub_zero,Nat.reduceSub,Bool.and_true,Bool.and_eq_true,decide_eq_true_eq]
  omega
 rw[hat,cano_ext2 anB orB 3 _ [btwX r s] (atF 1 d (atF 0 e A)) [] (by omega) fun p hp=>by rw[hf p hp,memK_nil,anB,orB,Bool.and_true,Bool.or_false]]
 have pt2:∀p,memK p 3 (atF 1 d (atF 0 e A))=memK (setF (setF p 1 d) 0 e) 5 A:=fun p=>by
  rw[memK_at (k:=3) (by omega) d];exact pt p d
 have qq:∀p,InP p->InP (setF (setF p 1 d) 0 e):=fun p hp=>inP_set (inP_set hp (f:=1) d0 d1) (f:=0) e0 e1
 refine three_len (I:=svcI i) ⟨fun p hp hm=>?_,fun p p' hp hp' h1 h2=>?_⟩ hk h4
 ·rw[pt2]at hm
  have:=hini _ (qq p hp) hm
  rw[memK,List.any_eq_true]at this⊢
  obtain⟨b,hb,hi⟩:=this
  have hbf:=boxI_full (i:=i) (List.mem_append_left _ hb)
  rw[inK_full hbf.1 hbf.2 (qq p hp)]at hi
  refine⟨b,hb,?_⟩
  rw[<-hi]
  exact inK_congr 3 b (by omega) fun f h4 h5=>by rw[setF_ne (by omega),setF_ne (by omega)]
 ·rw[pt2,pt2]
  refine hR _ _ (qq p hp) (qq p' hp') ⟨fun _ _=>rfl,fun _ _=>rfl,fun b hb=>?_⟩
  have hbf:=boxI_full hb
  rw[inK_full hbf.1 hbf.2 (qq p hp),inK_full hbf.1 hbf.2 (qq p' hp')]
  have c1:∀q,inK (setF (setF q 1 d) 0 e) 3 b=inK q 3 b:=fun q=>inK_congr 3 b (by omega) fun f h4 h5=>by rw[setF_ne (by omega),setF_ne (by omega)]
  rw[c1,c1]
  rcases List.mem_append.1 hb with hb|hb
  ·exact h1 b hb
  ·obtain⟨y,hy,hb⟩:=List.mem_flatMap.1 hb
   obtain⟨z,hz,rfl⟩:=List.mem_map.1 hb
   rw[Bool.eq_iff_iff,inK_hdr hp,inK_hdr hp']
   exact h2 (wu z.proto,z.ports) (List.mem_flatMap.2 ⟨y,hy,List.mem_map.2 ⟨z,hz,rfl⟩⟩)
end
/-! ### Sums over all pairs -/
theorem sum_flat{α β:Type}(f:α->List β)(g:β->Nat)(l:List α):((l.flatMap f).map g).sum=(l.map fun x=>((f x).map g).sum).sum:=by
 induction l with
 |nil=>rfl
 |cons x l ih=>rw[List.flatMap_cons,List.map_append,List.sum_append,ih,List.map_cons,List.sum_cons]
theorem sum_mulC{α:Type}(c:Nat)(f:α->Nat)(l:List α):(l.map fun e=>c*f e).sum=c*(l.map f).sum:=by
 induction l with
 |nil=>rfl
 |cons e l ih=>simp only[List.map_cons,List.sum_cons,ih,Nat.mul_add]
theorem sum_but{l:List Nat}(hn:l.Nodup){i:Nat}(hi:i∈l)(P:Nat->Nat):(l.map fun j=>if i=j then 0 else P j).sum+P i=(l.map P).sum:=by
 induction l with
 |nil=>simp at hi
 |cons x l ih=>
  obtain⟨h1,h2⟩:=List.nodup_cons.1 hn
  simp only[List.map_cons,List.sum_cons]
  by_cases hx:i=x
  ·subst hx
   have e:(l.map fun j=>if i=j then 0 else P j)=l.map P:=List.map_congr_left fun j hj=>if_neg fun h=>h1 (by rw[h];exact hj)
   rw[e,if_pos rfl];omega
  ·have:=ih h2 (by rcases List.mem_cons.1 hi with h|h;exact absurd h hx;exact h)
   rw[if_neg hx];omega
theorem tangent:∀p:Nat,p<18->p*(17-p)<=10*p+12:=by decide
theorem idx_sum(n:Nat)(g:Nat->Nat->Nat):((idxI n).map fun q=>g q.1 q.2).sum=((List.range n).map fun i=>((List.range n).map fun j=>g i j).sum).sum:=by
 rw[idxI,preI,List.range_zero,List.map_nil,List.append_nil,sum_flat]
 simp only[List.map_map,Function.comp_def]
theorem sum_pairs{n:Nat}(hn:n<=5){P:Nat->Nat}{f:Nat->Nat->Nat}(hT:((List.range n).map P).sum<=17)(hf:∀i j,i<n->j<n->f i j<=if i=j then 0 else P i*(P j*16)):((idxI n).map fun q=>1+f q.1 q.2).sum<=3705:=by
 rw[idx_sum n fun a b=>1+f a b]
 have hrow:∀i,i∈List.range n->((List.range n).map fun j=>1+f i j).sum<=197+160*P i:=fun i hi=>by
  have hi':=List.mem_range.1 hi
  have h1:((List.range n).map fun j=>1+f i j).sum<=((List.range n).map fun j=>1+(16*P i)*(if i=j then 0 else P j)).sum:=sum_nat_le fun j hj=>by
   have:=hf i j hi' (List.mem_range.1 hj)
   split
   ·rename_i h;rw[if_pos h]at this;omega
   ·rename_i h
    rw[if_neg h]at this
    have e:P i*(P j*16)=16*P i*P j:=by rw[Nat.mul_comm (P j),<-Nat.mul_assoc,Nat.mul_comm (P i)]
    omega
  rw[sum_nat_add (fun _=>1) (fun j=>(16*P i)*(if i=j then 0 else P j)),sum_nat_const,sum_mulC,List.length_range]at h1
  have h2:=sum_but (List.nodup_range (n:=n)) hi P
  generalize ((List.range n).map fun j=>if i=j then 0 else P j).sum=S at*
  have hp:P i<18:=by omega
  have h3:=tangent (P i) hp
  have h4:P i*S<=P i*(17-P i):=Nat.mul_le_mul_left _ (by omega)
  have e:16*P i*S=16*(P i*S):=Nat.mul_assoc ..
  omega
 have h1:=sum_nat_le hrow
 rw[sum_nat_add (fun _=>197) (fun i=>160*P i),sum_nat_const,sum_mulC,List.length_range]at h1
 omega
theorem sum_flat88{n:Nat}(hn:n<=5){f:Nat->Nat->Nat}(hf:∀i j,i<n->j<n->f i j<=88):((idxI n).map fun q=>1+f q.1 q.2).sum<=3705:=by
 rw[idx_sum n fun a b=>1+f a b]
 have hrow:∀i,i∈List.range n->((List.range n).map fun j=>1+f i j).sum<=n*89:=fun i hi=>by
  have h1:((List.range n).map fun j=>1+f i j).sum<=((List.range n).map fun _=>89).sum:=sum_nat_le fun j hj=>by
   have:=hf i j (List.mem_range.1 hi) (List.mem_range.1 hj)
   omega
  rw[sum_nat_const,List.length_range]at h1
  exact h1
 have h1:=sum_nat_le hrow
 rw[sum_nat_const,List.length_range]at h1
 have h2:n*(n*89)<=5*(5*89):=Nat.mul_le_mul hn (Nat.mul_le_mul_right _ hn)
 omega
/-! ### Real headers and two boxes -/
theorem comb_cases(a b:List Bx):(combP anB a b).1=[]\/((combP anB a b).1=cano anB 5 (givP a).1 (givP b).1/\∀q,InP q->memK q 5 (combP anB a b).1=(memK q 5 (givP a).1&&memK q 5 (givP b).1)):=by
 unfold combP
 split
 ·exact .inl rfl
 ·split
  ·exact .inl rfl
  ·simp only[limP]
   split
   ·exact .inl rfl
   ·exact .inr ⟨rfl,fun q hq=>cano_mem anB hq 5 _ _ (Nat.le_refl _)⟩
theorem comb_len(a b:List Bx):(combP anB a b).1.length<=(cano anB 5 (givP a).1 (givP b).1).length:=by
 rcases comb_cases a b with h|⟨h,_⟩
 ·rw[h];exact Nat.zero_le _
 ·rw[h];exact Nat.le_refl _
theorem comb_who{a:List Bx}(ha:setB a=true){w:Bx}(hw:w.ok):(combP anB a [w]).1.length<=(cano anB 5 a [w]).length:=by
 have h:=comb_len a [w]
 rw[givP,if_pos ha]at h
 rw[cano_ext2 anB anB 5 a [w] a (givP [w]).1 (Nat.le_refl _) fun q hq=>by rw[giv_one_mem hw hq]]
 exact h
theorem real_cases(t:Tp):(realP t).1=[]\/∀q,InP q->memK q 5 (realP t).1=(memK q 5 (vldB (pairsB t.edges))&&memK q 5 initS):=by
 unfold realP
 split
 ·exact .inl rfl
 ·rename_i h
  have h0:(makeP (pairsB t.edges)).2=0:=by omega
  rcases comb_cases (makeP (pairsB t.edges)).1 initS with he|⟨_,hm⟩
  ·exact .inl he
  ·refine .inr fun q hq=>?_
   rw[hm q hq,givP,if_pos (setB_makeP _),givP,if_pos init_set,makeP,makeGo_eq hq _ [] h0,memK_nil,Bool.false_or]
theorem pair_real{t:Tp}{l:List Bx}(hl:l.length<=2){w:Bx}(hw:w.ok)(hm:w∈pairsB t.edges):(cano anB 5 (combP anB (realP t).1 l).1 [w]).length<=88:=by
 have hnil:∀{a:List Bx},(∀q,InP q->memK q 5 a=false)->(cano anB 5 a [w]).length<=88:=fun {a} h=>by
  rw[(cano_nil_mem anB a [w]).2 fun q hq=>by rw[h q hq];rfl];exact Nat.zero_le _
 rcases comb_cases (realP t).1 l with h|⟨_,h⟩
 ·exact hnil fun q hq=>by rw[h,memK_nil]
 rw[givP,if_pos (setB_realP t)]at h
 rcases real_cases t with h2|h2
 ·exact hnil fun q hq=>by rw[h q hq,h2,memK_nil];rfl
 have hin:∀q,memK q 5 [w]=true->memK q 5 (vldB (pairsB t.edges))=true:=fun q hq=>by
  obtain⟨b,hb,hi⟩:=memK_iff.1 hq
  rw[List.mem_singleton.1 hb]at hi
  exact memK_iff.2 ⟨w,List.mem_filter.2 ⟨hm,by simpa using hw⟩,hi⟩
 rw[cano_ext2 anB anB 5 _ [w] (cano anB 5 initS [w]) (givP l).1 (Nat.le_refl _) fun q hq=>by
  rw[h q hq,h2 q hq,cano_mem anB hq 5 _ _ (Nat.le_refl _)]
  simp only[anB]
  cases hwq:memK q 5 [w]with
  |false=>simp
  |true=>rw[hin q hwq];simp]
 have c1:Cn 5 initS:=(setB_pset init_set).cn
 have c2:Cn 5 [w]:=cn_one 5 (Nat.le_refl _) hw
 have b1:=boundA 5 initS [w] (Nat.le_refl _) c1 c2
 have b2:=boundA 5 (cano anB 5 initS [w]) (givP l).1 (Nat.le_refl _) (cano_cn anB 5 _ _ (Nat.le_refl _)) (givP_pset _).cn
 have b3:=giv_two hl
 have b4:=Nat.mul_le_mul (show(cano anB 5 initS [w]).length<=8 from b1) b3
 omega
/-! ### All pairs -/
theorem cov_of{p q:Pf}(hp:p.okP)(hq:q.okP)(hb:p.bits<=q.bits)(h1:p.addr<=q.addr+pz q.bits-1)(h2:q.addr<=p.addr+pz p.bits-1):p.cov q=true:=by
 have hs:=pz_pos q.bits
 obtain⟨k,hk,e⟩:=pz_mul hb hq.2.1
 refine cov_iff.2 ⟨hq,hb,has_iffP.2 ⟨hp,?_,h2⟩⟩
 have ha:=hp.2.2
 rw[e]at ha
 have e1:pz q.bits∣p.addr:=Int.dvd_trans (Int.dvd_mul_right (pz q.bits) k) (Int.dvd_of_emod_eq_zero ha)
 have e2:pz q.bits∣q.addr:=Int.dvd_of_emod_eq_zero hq.2.2
 rcases Int.lt_or_le q.addr p.addr with hlt|hge
 ·have:=Int.le_of_dvd (by omega) (Int.dvd_sub e1 e2)
  omega
 ·exact hge
theorem meet_apart{p q:Pf}(hp:p.okP)(hq:q.okP)(h:p.meet q=false):p.rg.hi<q.rg.lo\/q.rg.hi<p.rg.lo:=by
 unfold Pf.meet at h
 rw[Bool.or_eq_false_iff]at h
 rw[rg_lo hp,rg_lo hq,rg_hi hp,rg_hi hq]
 rcases Int.lt_or_le (p.addr+pz p.bits-1) q.addr with h1|h1
 ·exact .inl h1
 ·rcases Int.lt_or_le (q.addr+pz q.bits-1) p.addr with h2|h2
  ·exact .inr h2
  ·exfalso
   rcases Int.le_total p.bits q.bits with hb|hb
   ·rw[cov_of hp hq hb h2 h1]at h;exact absurd h.1 (by decide)
   ·rw[cov_of hq hp hb h1 h2]at h;exact absurd h.2 (by decide)
theorem pairs_who{t:Tp}{a b:Nat}{ea eb:Ed}(ha:t.edges[a]? =some ea)(hb:t.edges[b]? =some eb)(hab:a≠b):whoB ea.pf eb.pf∈pairsB t.edges:=by
 rw[pairsB,pairsTo,List.mem_flatMap]
 refine⟨(ea,a),?_,List.mem_map.2 ⟨(eb,b),List.mem_filter.2 ⟨?_,by simpa using hab⟩,rfl⟩⟩
 ·rw[List.take_length];exact List.mem_zipIdx_iff_getElem?.2 ha
 ·rw[List.take_length];exact List.mem_zipIdx_iff_getElem?.2 hb
theorem edges_apart{t:Tp}(hc:compB t=true):ApartR (t.edges.map fun e=>e.pf.rg):=by
 obtain⟨ht,hp⟩:=compB_iff.1 hc
 refine List.pairwise_iff_getElem.2 fun i j hi hj hij=>?_
 rw[List.getElem_map,List.getElem_map]
 rw[List.length_map]at hi hj
 have h:=ht.apart j _ (List.getElem?_eq_getElem hj) i _ hij (List.getElem?_eq_getElem hi)
 have p1:=hp _ (List.getElem_mem hi)
 have p2:=hp _ (List.getElem_mem hj)
 have hm:(t.edges[j]).pf.meet (t.edges[i]).pf=false:=by
  cases hx:(t.edges[j]).pf.meet (t.edges[i]).pf with
  |false=>rfl
  |true=>exact absurd ⟨p2,p1,hx⟩ h
 obtain⟨_,_,_,_,_,o1,_⟩:=(ht.edge i _ (List.getElem?_eq_getElem hi)).1
 obtain⟨_,_,_,_,_,o2,_⟩:=(ht.edge j _ (List.getElem?_eq_getElem hj)).1
 exact(meet_apart o2 o1 hm).symm
theorem sum_flat_le{α β:Type}(f:α->List β){c:Nat}:∀(l:List α),(∀x,x∈l->(f x).length<=c)->(l.flatMap f).length<=l.length*c
 |[],_=>by simp
 |x::l,h=>by
  have h1:=h x (by simp)
  have h2:=sum_flat_le f l fun y hy=>h y (List.mem_cons_of_mem _ hy)
  rw[List.flatMap_cons,List.length_append,List.length_cons,Nat.succ_mul];omega
theorem svc_kind{i:Nt}(h:GNt i):∀x,x∈svcI i->kindI x:=fun x hx=>by
 obtain⟨d,hd,hx⟩:=List.mem_flatMap.1 hx
 obtain⟨y,hy,rfl⟩:=List.mem_map.1 hx
 have:=h.sv d hd y hy
 unfold SvcIt at this
 unfold kindI
 simp only
 rcases this with⟨_,h1,h2,h3⟩|(h1|h1)|⟨h1,h2,h3⟩|⟨h1,h2,h3⟩
 ·rw[h1];exact .inr (.inr (.inr (.inr ⟨by decide,h2,h3⟩)))
 ·rw[h1];exact .inl (by decide)
 ·rw[h1];exact .inr (.inl (by decide))
 ·rw[h1];exact .inr (.inr (.inl ⟨by decide,h2,h3⟩))
 ·rw[h1];exact .inr (.inr (.inr (.inl ⟨by decide,h2,h3⟩)))
theorem svc_few{i:Nt}(h:GNt i):(svcI i).length<=4:=by
 have h1:=sum_flat_le (fun d:Df=>d.items.map fun y=>(wu y.proto,y.ports)) (c:=2) i.svcs fun d hd=>by rw[List.length_map];exact h.few.si d hd
 have:=Nat.mul_le_mul_right 2 h.s2
 unfold svcI;omega
theorem rules_small{t:Tp}{p:Pol}(h5:t.edges.length<=5)(h:GPol t p):rulesP t p (idxI t.edges.length)<=3705:=by
 have hc:=h.ok.comp
 have hset:=h.ok.set
 have hwho:∀(a b:Nat) (ea eb:Ed),t.edges[a]? =some ea->t.edges[b]? =some eb->a≠b->(pairP t p a b).1.length<=(cano anB 5 p.allow [btwX ea.pf.rg eb.pf.rg]).length:=fun a b ea eb ha hb hab=>by
  rw[pairP_who hc hab ha hb]
  exact comb_who hset (who_ok hc ha hb)
 have hsame:∀a:Nat,(pairP t p a a).1.length=0:=fun a=>by
  unfold pairP
  split
  ·rfl
  ·split
   ·rfl
   ·rw[if_pos rfl];rfl
 rcases h.how with⟨i,hi,hR⟩|⟨l,hl,he⟩
 ·have hini:∀q,InP q->memK q 5 p.allow=true->memK q 5 initS=true:=fun q hq hm=>by
   have hs:=h.ok.init
   unfold subB at hs
   rw[vld_all (okL_set hset),init_vld]at hs
   exact(cano_sub _ _).1 (List.isEmpty_iff.1 hs) q hq hm
  have hle:∀r,r∈(t.edges.map fun e=>e.pf.rg)->r.lo<=r.hi:=fun r hr=>by
   obtain⟨e,he,rfl⟩:=List.mem_map.1 hr
   obtain⟨k,hk⟩:=List.mem_iff_getElem?.1 he
   exact edge_pf hc hk
  have hsum:=pieces_sum (C:=i.grps.flatMap fun d=>d.items.map fun y=>y.pf.rg) (edges_apart hc) hle (top:=4294967295) (by decide)
  have hg:=sum_flat_le (fun d:Df=>d.items.map fun y=>y.pf.rg) (c:=2) i.grps fun d hd=>by rw[List.length_map];exact hi.few.gi d hd
  have hg3:=Nat.mul_le_mul_right 2 hi.few.g3
  rw[List.length_map,List.map_map]at hsum
  have hrg:((t.edges.map fun e=>e.pf.rg)++i.grps.flatMap fun d=>d.items.map fun y=>y.pf.rg)=rgsI t i:=rfl
  rw[hrg]at hsum
  have e1:(List.range t.edges.length).map (fun a=>pieces (rgsI t i) 4294967295 ((t.edges[a]?.map fun e=>e.pf.rg).getD zR))=t.edges.map ((fun r=>pieces (rgsI t i) 4294967295 r)∘fun e=>e.pf.rg):=by
   refine List.ext_getElem (by simp) fun k h1 h2=>?_
   have hk:k<t.edges.length:=by simpa using h2
   simp only[List.getElem_map,List.getElem_range,List.getElem?_eq_getElem hk,Option.map_some,Option.getD_some,Function.comp]
  refine sum_pairs h5 (P:=fun a=>pieces (rgsI t i) 4294967295 ((t.edges[a]?.map fun e=>e.pf.rg).getD zR)) (f:=fun a b=>(pairP t p a b).1.length) ?_ fun a b ha hb=>?_
  ·rw[e1];omega
  ·split
   ·rename_i hab;subst hab;exact Nat.le_of_eq (hsame a)
   ·rename_i hab
    have ha':=List.getElem?_eq_getElem ha
    have hb':=List.getElem?_eq_getElem hb
    simp only[ha',hb',Option.map_some,Option.getD_some]
    exact Nat.le_trans (hwho a b _ _ ha' hb' hab) (pair_len hR hini (svc_kind hi) (svc_few hi) (List.mem_append_left _ (List.mem_map.2 ⟨_,List.getElem_mem ha,rfl⟩)) (List.mem_append_left _ (List.mem_map.2 ⟨_,List.getElem_mem hb,rfl⟩)))
 ·refine sum_flat88 h5 (f:=fun a b=>(pairP t p a b).1.length) fun a b ha hb=>?_
  by_cases hab:a=b
  ·subst hab;rw[hsame];exact Nat.zero_le _
  ·have ha':=List.getElem?_eq_getElem ha
   have hb':=List.getElem?_eq_getElem hb
   refine Nat.le_trans (hwho a b _ _ ha' hb' hab) ?_
   rw[he]
   exact pair_real hl (who_ok hc ha' hb') (pairs_who ha' hb' hab)
def roomD(d:Dv):Dv:={d with cap:=4096,rg:=true}
def zeroD(d:Dv):Dv:={d with cap:=0}
def devT(f:Dv->Dv)(t:Tp):Tp:={t with devs:=t.devs.map f}
def AlikeD(f:Dv->Dv):Prop:=∀d,(f d).name=d.name/\(f d).cls=d.cls/\0<=(f d).cap/\(f d).cap<=4096
theorem alike_room:AlikeD roomD:=fun d=>⟨rfl,rfl,by show(0:Int)<=4096;decide,by show(4096:Int)<=4096;decide⟩
theorem alike_zero:AlikeD zeroD:=fun d=>⟨rfl,rfl,by show(0:Int)<=0;decide,by show(0:Int)<=4096;decide⟩
section
variable {f:Dv->Dv}
theorem devIx_map(h:AlikeD f)(l:List Dv)(n:ByteArray):devIx (l.map f) n=devIx l n:=by
 have e:(l.map f).findIdx? (fun d=>sEq d.name n)=l.findIdx? fun d=>sEq d.name n:=by
  rw[List.findIdx?_map]
  congr 1
  funext d
  simp only[Function.comp,(h d).1]
 unfold devIx firstIx
 rw[e]
theorem topOk_map(h:AlikeD f){t:Tp}(ht:TopOk t):TopOk (devT f t) where
 d0:=by rw[devT];simp only[List.length_map];exact ht.d0
 d1:=by rw[devT];simp only[List.length_map];exact ht.d1
 l1:=ht.l1
 e1:=ht.e1
 p1:=ht.p1
 t0:=ht.t0
 t1:=ht.t1
 dev:=fun i d hd=>by
  have hd':(t.devs.map f)[i]? =some d:=hd
  rw[List.getElem?_map]at hd'
  obtain⟨x,hx,rfl⟩:=Option.map_eq_some_iff.1 hd'
  have:=ht.dev i x hx
  obtain⟨h1,h2,h3,h4⟩:=h x
  refine⟨⟨by rw[h1];exact this.1.1,h3,h4,by rw[h2];exact this.1.2.2.2⟩,?_⟩
  show devIx (t.devs.map f) (f x).name=i
  rw[devIx_map h,h1];exact this.2
 link:=fun i l hl=>by
  have:=ht.link i l hl
  have e:(devT f t).devs.length=t.devs.length:=List.length_map ..
  rw[e];exact this
 edge:=fun i l hl=>by
  have:=ht.edge i l hl
  have e:(devT f t).devs.length=t.devs.length:=List.length_map ..
  rw[e];exact this
 apart:=ht.apart
 pool:=ht.pool
theorem comp_map(h:AlikeD f){t:Tp}(hc:compB t=true):compB (devT f t)=true:=compB_iff.2 ⟨topOk_map h (compB_iff.1 hc).1,(compB_iff.1 hc).2⟩
theorem polOk_map(h:AlikeD f){t:Tp}{p:Pol}(hp:PolOk t p):PolOk (devT f t) p:=⟨comp_map h hp.comp,hp.set,hp.sub,hp.init,hp.insp⟩
theorem pairP_map(h:AlikeD f){t:Tp}(hc:compB t=true)(p:Pol)(a b:Int):pairP (devT f t) p a b=pairP t p a b:=by
 unfold pairP
 rw[hc,comp_map h hc]
 rfl
theorem rules_map(h:AlikeD f){t:Tp}(hc:compB t=true)(p:Pol)(l:List (Nat×Nat)):rulesP (devT f t) p l=rulesP t p l:=by
 unfold rulesP
 refine congrArg List.sum (List.map_congr_left fun q _=>?_)
 rw[pairP_map h hc]
end
theorem place_roomy{t:Tp}{p:Pol}(hp:PolOk t p)(hr:rulesP t p (idxI t.edges.length)<=4096):∃m,placeP (devT roomD t) p=(m,0)/\∀x,x∈m->x.eg=false:=by
 have hq:=polOk_map alike_room hp
 have hdi:=(comp_dev hq.comp).1
 have hroom:RoomT (devT roomD t):=fun d hd=>by
  obtain⟨x,_,rfl⟩:=List.mem_map.1 hd
  exact⟨rfl,rfl⟩
 have hin:=pairs_in (devT roomD t) p
 have hsum:=rules_pairs (devT roomD t) p (idxI (devT roomD t).edges.length)
 rw[rules_map alike_room hp.comp]at hsum
 have e:(devT roomD t).edges.length=t.edges.length:=rfl
 have hgo:=placeGo_room hroom hdi (pairsOf (devT roomD t) p (idxI (devT roomD t).edges.length)) [] (zeros (devT roomD t).devs.length) 0 (fun x hx=>(hin x hx).1) (fun v hv=>by
  have:v=0:=by
   rw[zeros,List.mem_replicate]at hv;exact hv.2
  omega) (by rw[Nat.zero_add];exact Nat.le_trans hsum (by rw[e];exact hr))
 refine⟨pairsOf (devT roomD t) p (idxI (devT roomD t).edges.length),?_,fun x hx=>(hin x hx).2⟩
 rw[placeP_pol hq,hgo]
 rfl
theorem place_none{t:Tp}{p:Pol}(hp:PolOk t p):placeP (devT zeroD t) p=if p.allow=[]then([],0)else([],9):=
 place_zero (polOk_map alike_zero hp) fun d hd=>by
  obtain⟨x,_,rfl⟩:=List.mem_map.1 hd
  rfl
theorem cRoom(raw:List Int)(hr:raw.length<=9223372036854775807):ACall Tryz.prog 7 [.lst (raw.map encI)] [] Yes:=by
 refine oflRoom rfl rfl ?_
 (repeat' ((conv=>whnf);first|(with_reducible refine c9 raw ?_)|(refine cnTop3 raw 0 (Nat.zero_le _) hr fun t p1 ht hd hp1=>?_)|(with_reducible refine cnPol raw _ t ht.e5 (by omega) (comp_top ht) (by with_reducible assumption) hr fun p p2 hg hp2=>?_)|refine zG ?_|apply zA|(apply zI;intro h)|exact zT));(all_goals conv=>whnf)
 have h5:=ht.e5
 have htop:=(compB_iff.1 (comp_top ht)).1
 have b1:=htop.d1;have b2:=htop.l1;have b3:=htop.p1
 obtain⟨m,hm,hmeg⟩:=place_roomy hg.ok (Nat.le_trans (rules_small h5 hg) (by decide))
 have hcp:∀{K:KT},K (.agg [.os 0 5 0 t.devs.length,.os 1 3 0 t.links.length,.os 2 6 0 t.edges.length,.os 3 2 0 t.pools.length,.v (.int .i64 t.tol)]) [.arr 5 (t.devs.map encD),.arr 3 (t.links.map encL),.arr 6 (t.edges.map encE),.arr 2 (t.pools.map encP)]->
  ACall Tryz.prog 26 [encT t] [] K:=fun h=>cnCopy t ⟨by omega,by omega,by omega,by omega⟩ h
 (repeat' ((conv=>whnf);first|(with_reducible refine hcp ?_)|refine zG ?_|apply zA|(apply zI;intro h)|exact zT));(all_goals conv=>whnf)
 have hdevs:∀{f:Dv->Dv} {k:Nat} {d:Dv},t.devs[k]? =some d->((t.devs.take k).map f++t.devs.drop k).set k (f d)=(t.devs.take (k+1)).map f++t.devs.drop (k+1):=fun {f k d} hd=>by
  have hk:=(List.getElem?_eq_some_iff.1 hd).1
  rw[List.set_append_right _ _ (by rw[List.length_map,List.length_take];omega),List.length_map,List.length_take,Nat.min_eq_left (Nat.le_of_lt hk),Nat.sub_self,List.drop_eq_getElem_cons hk,List.set_cons_zero,List.take_add_one,hd,List.map_append,List.append_assoc]
  rfl
 refine Lp.intro (Nat×List Dv) (fun g=>⟨12,[(11,.box [.os 7 5 0 t.devs.length,.os 8 3 0 t.links.length,.os 9 6 0 t.edges.length,.os 10 2 0 t.pools.length,.v (.int .i64 t.tol)]),(7,.arr 5 (g.2.map encD)),(8,.arr 3 (t.links.map encL)),(9,.arr 6 (t.edges.map encE)),(10,.arr 2 (t.pools.map encP)),(6,boxPol p),(5,boxT t)],[(4,.op 5 0),(5,.op 6 0),(6,.op 11 0),(7,.v (.int .i64 g.1))]⟩)
  (fun g=>g.1<=t.devs.length/\g.2=(t.devs.take g.1).map roomD++t.devs.drop g.1) (fun g=>t.devs.length-g.1) (0,t.devs) ⟨Nat.zero_le _,rfl⟩ ?_ ?_
 ·(exact leA)
 rintro⟨k,ds⟩ ⟨hk,hds⟩
 simp only at hk hds⊢
 have hdl:ds.length=t.devs.length:=by rw[hds,List.length_append,List.length_map,List.length_take,List.length_drop];omega
 rcases Nat.lt_or_ge k t.devs.length with hkl|hkl
 ·obtain⟨d,hd⟩:=gex hkl
  have hdk:ds[0+k]? =some d:=by
   rw[Nat.zero_add,hds,List.getElem?_append_right (by rw[List.length_map,List.length_take];omega),List.length_map,List.length_take,List.getElem?_drop,<-hd]
   congr 1;omega
  have hset:0+k<(ds.map encD).length:=by rw[List.length_map];omega
  have hnx:=hdevs (f:=roomD) hd
  rw[<-hds]at hnx
  have harr:((ds.map encD).set (0+k) (.agg [.v (.string d.name),.v (.int .i64 4096),.sb d.rg,.sb d.vol,.v (.string d.cls)])).set (0+k) (.agg [.v (.string d.name),.v (.int .i64 4096),.sb true,.sb d.vol,.v (.string d.cls)])=(ds.set k (roomD d)).map encD:=by
   rw[List.map_set,List.set_set,Nat.zero_add];rfl
  have harr2:((ds.map encD).set (0+k) (.agg [.v (.string d.name),.v (.int .i64 d.cap),.sb true,.sb d.vol,.v (.string d.cls)])).set (0+k) (.agg [.v (.string d.name),.v (.int .i64 4096),.sb true,.sb d.vol,.v (.string d.cls)])=(ds.set k (roomD d)).map encD:=by
   rw[List.map_set,List.set_set,Nat.zero_add];rfl
  (repeat' ((conv=>whnf);first|(with_reducible first|refine in_nat hkl ?_|refine ix_map hdk ?_|refine ix_set hset ?_)|refine zG ?_|apply zA|(apply zI;intro h)|exact zT));(all_goals conv=>whnf)
  all_goals
   refine⟨(k+1,ds.set k (roomD d)),⟨hkl,hnx⟩,by simp only;omega,?_⟩
   rw[show(((k+1,ds.set k (roomD d)):Nat×List Dv).1:Int)=(k:Int)+1 from by simp only;omega]
   first
    |(rw[<-harr]
      (exact leA)
      done)
    |(rw[<-harr2]
      (exact leA)
      done)
 have hke:k=t.devs.length:=by omega
 rw[hke,List.take_length,List.drop_length,List.append_nil]at hds
 subst hds
 have hml:=(place_cases (polOk_map alike_room hg.ok))
 have hmlen:m.length<=25:=by
  rcases hml with h0|⟨m',h0,hk',_⟩
  ·rw[hm]at h0;cases h0
  ·rw[hm]at h0;cases h0
   exact keys_len (t:=devT roomD t) h5 hk'
 have hP:∀{K:KT},K (.tup [.lst (m.map encPl),.v (.int .i64 0)]) []->ACall Tryz.prog 21 [.agg [.lst ((t.devs.map roomD).map encD),.lst (t.links.map encL),.lst (t.edges.map encE),.lst (t.pools.map encP),.v (.int .i64 t.tol)],encPol p] [] K:=fun h=>
  czPlace (devT roomD t) p (by show t.edges.length<_;omega) (setB_len hg.ok.set) (by have:=hg.il;omega) (pol_sets hg.ok) (by rw[hm];exact h)
 have hZ:∀{K:KT},K (.tup [.lst [],.v (.int .i64 (if p.allow=[]then 0 else 9))]) []->ACall Tryz.prog 21 [.agg [.lst ((t.devs.map zeroD).map encD),.lst (t.links.map encL),.lst (t.edges.map encE),.lst (t.pools.map encP),.v (.int .i64 t.tol)],encPol p] [] K:=fun h=>
  czPlace (devT zeroD t) p (by show t.edges.length<_;omega) (setB_len hg.ok.set) (by have:=hg.il;omega) (pol_sets hg.ok) (by
   rw[place_none hg.ok]
   split
   ·rename_i ha;rw[if_pos ha]at h;exact h
   ·rename_i ha;rw[if_neg ha]at h;exact h)
 (repeat' ((conv=>whnf);first|(with_reducible refine hP ?_)|refine zG ?_|apply zA|(apply zI;intro h)|exact zT));(all_goals conv=>whnf)
 refine Lp.intro Nat (fun j=>⟨12,[(6,boxPol p),(5,boxT t)],[(4,.op 5 0),(5,.op 6 0),(8,.lst (m.map encPl)),(14,.v (.int .i64 j))]⟩) (fun j=>j<=m.length) (fun j=>m.length-j) 0 (Nat.zero_le _) ?_ ?_
 ·(exact leA)
 intro j hj
 rcases Nat.lt_or_ge j m.length with hjl|hjl
 ·obtain⟨x,hx⟩:=gex hjl
  have hxe:=hmeg x (List.mem_of_getElem? hx)
  (repeat' ((conv=>whnf);first|(with_reducible first|refine in_map hjl ?_|refine ix_map hx ?_)|refine zG ?_|apply zA|(apply zI;intro h)|exact zT));(all_goals conv=>whnf)
  all_goals first
   |(exfalso;rw[hxe]at h;cases h;done)
   |(refine⟨j+1,hjl,by omega,?_⟩
     rw[Int.natCast_add,Int.natCast_one]
     (exact leA)
     done)
   |trace_state
 (repeat' ((conv=>whnf);first|(with_reducible refine hcp ?_)|refine zG ?_|apply zA|(apply zI;intro h)|exact zT));(all_goals conv=>whnf)
 refine Lp.intro (Nat×List Dv) (fun g=>⟨17,[(16,.box [.os 12 5 0 t.devs.length,.os 13 3 0 t.links.length,.os 14 6 0 t.edges.length,.os 15 2 0 t.pools.length,.v (.int .i64 t.tol)]),(12,.arr 5 (g.2.map encD)),(13,.arr 3 (t.links.map encL)),(14,.arr 6 (t.edges.map encE)),(15,.arr 2 (t.pools.map encP)),(6,boxPol p)],[(5,.op 6 0),(15,.op 16 0),(16,.v (.int .i64 g.1))]⟩)
  (fun g=>g.1<=t.devs.length/\g.2=(t.devs.take g.1).map zeroD++t.devs.drop g.1) (fun g=>t.devs.length-g.1) (0,t.devs) ⟨Nat.zero_le _,rfl⟩ ?_ ?_
 ·(exact leA)
 clear hk hke hkl k hdl
 rintro⟨k,ds⟩ ⟨hk,hds⟩
 simp only at hk hds⊢
 have hdl:ds.length=t.devs.length:=by rw[hds,List.length_append,List.length_map,List.length_take,List.length_drop];omega
 rcases Nat.lt_or_ge k t.devs.length with hkl|hkl
 ·obtain⟨d,hd⟩:=gex hkl
  have hdk:ds[0+k]? =some d:=by
   rw[Nat.zero_add,hds,List.getElem?_append_right (by rw[List.length_map,List.length_take];omega),List.length_map,List.length_take,List.getElem?_drop,<-hd]
   congr 1;omega
  have hset:0+k<(ds.map encD).length:=by rw[List.length_map];omega
  have hnx:=hdevs (f:=zeroD) hd
  rw[<-hds]at hnx
  have harr:(ds.map encD).set (0+k) (.agg [.v (.string d.name),.v (.int .i64 0),.sb d.rg,.sb d.vol,.v (.string d.cls)])=(ds.set k (zeroD d)).map encD:=by
   rw[List.map_set,Nat.zero_add];rfl
  (repeat' ((conv=>whnf);first|(with_reducible first|refine in_nat hkl ?_|refine ix_map hdk ?_|refine ix_set hset ?_)|refine zG ?_|apply zA|(apply zI;intro h)|exact zT));(all_goals conv=>whnf)
  refine⟨(k+1,ds.set k (zeroD d)),⟨hkl,hnx⟩,by simp only;omega,?_⟩
  rw[show(((k+1,ds.set k (zeroD d)):Nat×List Dv).1:Int)=(k:Int)+1 from by simp only;omega,<-harr]
  (exact leA)
 have hke:k=t.devs.length:=by omega
 rw[hke,List.take_length,List.drop_length,List.append_nil]at hds
 subst hds
 by_cases hpa:p.allow=[]
 ·simp only[if_pos hpa]at hZ
  (repeat' ((conv=>whnf);first|(with_reducible first|refine hZ ?_|refine cvSane ?_)|refine zG ?_|apply zA|(apply zI;intro h)|exact zT));(all_goals conv=>whnf)
  all_goals first
   |exact .inl rfl
   |exact .inr rfl
   |(exfalso;rw[hpa]at h;simp at h;done)
   |trace_state
 ·simp only[if_neg hpa]at hZ
  have hne:¬(((p.allow.map encX).length:Nat):Int)=0:=fun h=>hpa (List.length_eq_zero_iff.1 (by rw[List.length_map]at h;omega))
  (repeat' ((conv=>whnf);first|(with_reducible first|refine hZ ?_|refine cvSane ?_)|refine zG ?_|apply zA|(apply zI;intro h)|exact zT));(all_goals conv=>whnf)
  all_goals first
   |exact .inl rfl
   |exact .inr rfl
   |(exfalso;simp_all;done)
   |trace_state
open Go Go.Vm Go.ChangeShapes Go.WideShapes Go.ChangeAt Go.RowKit
theorem placementRoom_lifted(os:Os)(started:os.Started)(H:Type)(enc:TypeId×Value->H):
  ReturnsInHanded {} Tryz.checked os 7 .any (fun w args=>(Rows.placementRoomSpec.pre enc Tryz.prog Tryz.f7 [] false w args/\laidMetH Tryz.prog laid2 w)/\sizedMet enc Tryz.prog Tryz.f7 (OpenSpec.ofChange Rows.placementRoomSpec) false w args)
   (Rows.placementRoomSpec.post enc Tryz.prog Tryz.f7 false true false false):=by
 refine returnsInHanded_of_change_and (C:=Tryz.checked) (X:=fun w _=>laidMetH Tryz.prog laid2 w) (fun _ _ _ hh h=>h.of_heap hh) ownNone started (by kernel_rfl) Tryz.func7
  (ChangeSpec.witness_shaped (enc:=enc) (C:=Tryz.checked) (os:=os) (X:=fun w _=>laidMetH Tryz.prog laid2 w) false (World.doorLaid Tryz.prog 400 os) #[.slice none 0 0] 8 rfl (World.shaped_of_RefB (by kernel_rfl) (by kernel_rfl)) (by kernel_rfl) (by kernel_rfl) (by kernel_rfl) (door_met os _)) ?_
 intro W base args ds gs before hval0 hW _ _ hL _
 have hval:∀(j:Nat) t v,Tryz.f7.params[j]? =some t->args[j]? =some v->Value.okWide Tryz.prog W .any base t v:=hval0
 refine law_contract (P:=Tryz.prog) (t:=4) (d:=6) laidOut (by kernel_rfl) (by kernel_rfl) rfl rfl (by kernel_rfl) (fun ds hds=>?_) (fun xs hxs=>?_) (glob_of hL) hval hW
 ·have hds:ds.length=1:=hds.trans (show Tryz.f7.params.size=1 by kernel_rfl)
  match ds,hds with
  |[d0],_=>rfl
 ·match xs,hxs with
  |[a0],⟨h0,_⟩=>
   obtain⟨raw0,rfl,hr0⟩:=ty_is (d:=4) h0
   exact cRoom raw0 hr0
theorem placementRoom_row:Rows.PlacementRoomSaid:=
 OpenClaim.holds_of_wide 7 Tryz.f7 rfl rfl rfl rfl rfl rfl rfl ⟨rfl,rfl,rfl,rfl,rfl⟩ rfl rfl rfl rfl rfl (by kernel_rfl) Tryz.func7 (by kernel_rfl)
  (of_decide_eq_true (by kernel_rfl)) (by unfold Func.isWrapper;first|(rw[if_pos (by decide+kernel)];kernel_rfl)|(rw[if_neg (by decide+kernel)];exact⟨rfl,rfl⟩))
  (fun os started H enc _=>placementRoom_lifted os started H enc)
theorem placementRoom_holds:Rows.PlacementRoomCardSaid:=
 Claim7.holds_tied_plain_at .later [] [.data,.data] true Rows.placementRoomCard.stood.harness false
  placementRoom_row (fun _ h=>by cases h) (by kernel_rfl) (fun _ h=>by cases h) placementRoom_row_tie rfl ⟨rfl,rfl⟩ (by kernel_rfl) rfl
  (fun f fn hf hfn=>by
   obtain rfl:f=7:=Option.some.inj ((show Tryz.prog.funcNamed "netsegment/nsglaw21.PlacementRoom"=some 7 by kernel_rfl).symm.trans hf)|>.symm
   obtain rfl:fn=Tryz.f7:=(Option.some.inj (Tryz.func7.symm.trans hfn)).symm
   exact⟨by kernel_rfl,fun j t ht=>wants_none (ts:=Tryz.f7.params.toList) (by kernel_rfl) (List.mem_of_getElem? (by rw[Array.getElem?_toList];exact ht))⟩)
  (by kernel_rfl)
#print axioms placementRoom_holds
end Go.Proofs.YtokmdghjgegclaaGreatDoor
