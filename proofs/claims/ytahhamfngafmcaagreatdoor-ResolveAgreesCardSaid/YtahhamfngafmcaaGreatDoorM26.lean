/- interval.canonical, but for the sort. -/
import Derived.Test.YtahhamfngafmcaaGreatDoorProg
import Derived.Test.YtahhamfngafmcaaGreatDoorM25
set_option linter.unusedVariables false
set_option linter.unusedSimpArgs false
set_option maxRecDepth 100000
set_option maxHeartbeats 4000000
namespace Go.Proofs.YtahhamfngafmcaaGreatDoor
open Go Go.Vm
def Sorts:Prop:=∀(d:List Rg) (n:Nat),n=d.length->d.length<1000000->∀K:AV->List Vm.Obj->Prop,(∀d':List Rg,d'.Perm d->d'.Pairwise (fun r s=>r.lo<=s.lo)->K (.tup []) [.arr 2 (d'.map encR)])->
 ACall Tryz.prog 185 [.os 0 2 0 n,.fn (.func 186) [] []] [.arr 2 (d.map encR)] K
def mergeS(out:List Rg)(r:Rg):List Rg:=
 match out.getLast? with
 |some p=>if r.lo<=p.hi+1 then out.dropLast++[mkR p.lo (max p.hi r.hi)]else out++[r]
 |none=>[r]
theorem mergeS_length(out:List Rg)(r:Rg):(mergeS out r).length<=out.length+1:=by
 unfold mergeS
 split
 ·split<;>simp
 ·simp
theorem mergeS_inv{out:List Rg}{r:Rg}(hc:Canon out)(hlo:∀p,p∈out->p.lo<=r.lo)(hr:r.lo<=r.hi):Canon (mergeS out r)/\(∀v,has (mergeS out r) v=(has out v||has [r] v))/\∀p,p∈mergeS out r->p.lo<=r.lo:=by
 have b1:=r.l0;have b2:=r.l1;have b3:=r.h0;have b4:=r.h1
 unfold mergeS
 rcases List.eq_nil_or_concat out with hnil|⟨ini,p,hcat⟩
 ·subst hnil
  refine⟨?_,fun v=>by simp[has],fun p hp=>by simp at hp;subst hp;exact Int.le_refl _⟩
  have:=canon_append_one canon_nil hr (fun s hs=>by simp at hs)
  simpa using this
 ·rw[List.concat_eq_append]at hcat
  subst hcat
  simp only[List.getLast?_append,List.getLast?_singleton,Option.some_or,List.dropLast_concat]
  have p1:=p.l0;have p2:=p.l1;have p3:=p.h0;have p4:=p.h1
  have hpw:=List.pairwise_append.1 hc.2
  have hp1:=hc.1 p zx
  have hp2:=hlo p zx
  have hx:0<=max p.hi r.hi/\max p.hi r.hi<=4294967295:=by omega
  split
  ·rename_i he
   have ci:Canon ini:=⟨fun t ht=>hc.1 t (by simp[ht]),hpw.1⟩
   refine⟨canon_append_one ci (by rw[mkR_lo p1 p2 hx.1 hx.2,mkR_hi p1 p2 hx.1 hx.2];omega) (fun s hs=>by rw[mkR_lo p1 p2 hx.1 hx.2];exact hpw.2.2 s hs p zx),fun v=>?_,fun q hq=>?_⟩
   ·rw[has_append,has_append,has_one,has_one,has_one,mkR_lo p1 p2 hx.1 hx.2,mkR_hi p1 p2 hx.1 hx.2,Bool.or_assoc]
    congr 1
    rw[Bool.eq_iff_iff]
    simp only[Bool.or_eq_true,Bool.and_eq_true,decide_eq_true_eq]
    omega
   ·rcases List.mem_append.1 hq with hq|hq
    ·exact hlo q (by simp[hq])
    ·simp at hq;subst hq;rw[mkR_lo p1 p2 hx.1 hx.2];exact hp2
  ·rename_i he
   refine⟨canon_append_one hc hr (fun s hs=>?_),fun v=>has_append _ _ v,fun q hq=>?_⟩
   ·rcases List.mem_append.1 hs with hs|hs
    ·have:=hpw.2.2 s hs p zx;omega
    ·simp at hs;subst hs;omega
   ·rcases List.mem_append.1 hq with hq|hq
    ·exact hlo q hq
    ·simp at hq;subst hq;exact Int.le_refl _
theorem fold_merge:∀(d out:List Rg),Canon out->(∀p,p∈out->∀r,r∈d->p.lo<=r.lo)->d.Pairwise (fun r s=>r.lo<=s.lo)->(∀r,r∈d->r.lo<=r.hi)->
  Canon (d.foldl mergeS out)/\(∀v,has (d.foldl mergeS out) v=(has out v||has d v))/\(d.foldl mergeS out).length<=out.length+d.length
 |[],out,hc,_,_,_=>⟨hc,fun v=>by simp[has],by simp⟩
 |r::d,out,hc,hlo,hp,hok=>by
  have⟨hp1,hp2⟩:=List.pairwise_cons.1 hp
  obtain⟨h1,h2,h3⟩:=mergeS_inv hc (fun p hpm=>hlo p hpm r zx) (hok r zx)
  obtain⟨g1,g2,g3⟩:=fold_merge d (mergeS out r) h1 (fun p hpm s hs=>Int.le_trans (h3 p hpm) (hp1 s hs)) hp2 (fun s hs=>hok s (by simp[hs]))
  refine⟨g1,fun v=>?_,?_⟩
  ·rw[List.foldl_cons,g2,h2,Bool.or_assoc,<-has_append];rfl
  ·have:=mergeS_length out r
   simp only[List.foldl_cons,List.length_cons];omega
def okR(r:Rg):Bool:=decide (r.lo<=r.hi)
theorem c39(hs:Sorts)(l:List Rg)(hl:l.length<100000){K:KT}(hK:∀c,Canon c->(∀v,has c v=has l v)->c.length<=l.length->K (encRs c) []):ACall Tryz.prog 142 [encRs l] [] K:=by
 refine of39 rfl rfl ?_
 (conv=>whnf)
 refine Lp.intro Nat (fun k=>⟨2,[(0,.arr 2 (((l.take k).filter okR).map encR)),(1,.arr 2 [])],[(3,.os 0 2 0 ((l.take k).filter okR).length),(4,.os 1 2 0 0),(10,encRs l),(11,.v (.int .i64 (l.map encR).length)),(12,.v (.int .i64 k))]⟩) (fun k=>k<=l.length) (fun k=>l.length-k) 0 ?_ ?_ ?_
 ·exact Nat.zero_le _
 ·exact⟨[(0,0),(1,1)],rfl,⟨rfl,rfl,rfl,rfl,rfl,trivial⟩,⟨rfl,rfl,trivial⟩⟩
 ·intro k hk
  rcases Nat.lt_or_ge k l.length with hkl|hkl
  ·obtain⟨r,hr⟩:=gex hkl
   have b1:=r.l0;have b2:=r.l1;have b3:=r.h0;have b4:=r.h1
   have e:(l.take (k+1)).filter okR=(l.take k).filter okR++(if r.lo<=r.hi then [r]else []):=by
    rw[List.take_add_one,hr,Option.toList_some,List.filter_append]
    simp only[okR,List.filter_cons,List.filter_nil,decide_eq_true_eq]
   have hlen:((l.take k).filter okR).length<=l.length:=Nat.le_trans (List.length_filter_le _ _) (by rw[List.length_take];omega)
   iterate 30 (all_goals((conv=>whnf);first|(with_reducible first|refine in_map hkl ?_|refine ix_map hr ?_)|refine zG ?_|apply zA|(apply zI;intro h)|exact zT|skip))
   ·refine⟨k+1,by omega,by omega,?_⟩
    rw[e,if_pos zp,List.map_append,List.length_append]
    exact⟨[(0,4),(1,1)],rfl,⟨rfl,rfl,rfl,rfl,rfl,trivial⟩,⟨rfl,rfl,trivial⟩⟩
   ·refine⟨k+1,by omega,by omega,?_⟩
    rw[e,if_neg zp,List.append_nil]
    exact⟨[(0,0),(1,1)],rfl,⟨rfl,rfl,rfl,rfl,rfl,trivial⟩,⟨rfl,rfl,trivial⟩⟩
  ·rw[List.take_of_length_le hkl]
   have hlen:(l.filter okR).length<=l.length:=List.length_filter_le _ _
   iterate 6 (all_goals((conv=>whnf);first|(with_reducible refine in_map hkl ?_)|refine zG ?_|apply zA|(apply zI;intro h)|exact zT|skip))
   refine hs (l.filter okR) _ rfl zo _ fun d hperm hsort=>?_
   have hn:(l.filter okR).length=d.length:=hperm.length_eq.symm
   rw[hn]
   (conv=>whnf)
   refine Lp.intro Nat (fun k=>⟨2,[(0,.arr 2 (d.map encR)),(1,.arr 2 (((d.take k).foldl mergeS []).map encR))],[(4,.os 1 2 0 ((d.take k).foldl mergeS []).length),(28,.os 0 2 0 d.length),(29,.v (.int .i64 d.length)),(30,.v (.int .i64 k))]⟩) (fun k=>k<=d.length/\((d.take k).foldl mergeS []).length<=k) (fun k=>d.length-k) 0 ?_ ?_ ?_
   ·exact⟨Nat.zero_le _,by simp⟩
   ·exact⟨[(0,0),(1,1)],rfl,⟨rfl,rfl,rfl,rfl,trivial⟩,⟨rfl,rfl,trivial⟩⟩
   ·intro k ⟨hk,hle⟩
    rcases Nat.lt_or_ge k d.length with hkl|hkl
    ·obtain⟨r,hr⟩:=gex hkl
     have hr0:d[0+k]? =some r:=by rw[Nat.zero_add];exact hr
     have b1:=r.l0;have b2:=r.l1;have b3:=r.h0;have b4:=r.h1
     have hs2:=foldl_succ (f:=mergeS) (b:=[]) hr
     generalize hout:(d.take k).foldl mergeS []=out at hs2 hle⊢
     have hj:(k:Int)<(d.length:Int):=by omega
     rcases List.eq_nil_or_concat out with hnil|⟨ini,p,hcat⟩
     ·subst hnil
      iterate 30 (all_goals((conv=>whnf);first|(with_reducible first|refine In.intro k rfl zo ?_|refine ix_map hr ?_|refine ix_map hr0 ?_)|refine zG ?_|apply zA|(apply zI;intro h)|exact zT|skip))
      refine⟨k+1,⟨by omega,by rw[hs2];simp[mergeS]⟩,by omega,?_⟩
      rw[hs2,show mergeS [] r=[r]from rfl]
      exact⟨[(0,0),(1,4)],rfl,⟨rfl,rfl,rfl,rfl,trivial⟩,⟨rfl,rfl,trivial⟩⟩
     ·rw[List.concat_eq_append]at hcat
      subst hcat
      have p1:=p.l0;have p2:=p.l1;have p3:=p.h0;have p4:=p.h1
      have hp:(ini++[p])[ini.length]? =some p:=by simp
      have hp0:(ini++[p])[0+ini.length]? =some p:=by simp
      have hi:((((ini++[p]).length:Nat):Int)-1=ini.length)/\ini.length<(ini++[p]).length:=by simp
      iterate 40 (all_goals((conv=>whnf);first|(with_reducible first|refine In.intro k rfl zo ?_|refine ix_map hr ?_|refine ix_map hr0 ?_|refine In.intro ini.length hi.1 hi.2 ?_|refine ix_map hp ?_|refine ix_map hp0 ?_)|refine zG ?_|apply zA|(apply zI;intro h)|exact zT|skip))
      ·have e:mergeS (ini++[p]) r=ini++[mkR p.lo (max p.hi r.hi)]:=by
        simp only[mergeS,List.getLast?_append,List.getLast?_singleton,Option.some_or,List.dropLast_concat]
        rw[if_pos zp]
       refine⟨k+1,⟨by omega,by rw[hs2];have:=mergeS_length (ini++[p]) r;omega⟩,by omega,?_⟩
       rw[hs2,e,List.map_append,List.map_cons,List.map_nil,enc_mkR zo zo zo zo]
       have e2:(ini.map encR++[.agg [.v (.int .u32 p.lo),.v (.int .u32 (max p.hi r.hi))]])=((ini++[p]).map encR).set (0+ini.length) (.agg [.v (.int .u32 p.lo),.v (.int .u32 (max p.hi r.hi))]):=by
        rw[List.map_append,List.set_append_right _ _ zx]
        simp
       rw[e2,show(ini++[mkR p.lo (max p.hi r.hi)]).length=(ini++[p]).length by simp]
       exact⟨[(0,0),(1,1)],rfl,⟨rfl,rfl,rfl,rfl,trivial⟩,⟨rfl,rfl,trivial⟩⟩
      ·have e:mergeS (ini++[p]) r=ini++[p]++[r]:=by
        simp only[mergeS,List.getLast?_append,List.getLast?_singleton,Option.some_or,List.dropLast_concat]
        rw[if_neg zp]
       refine⟨k+1,⟨by omega,by rw[hs2];have:=mergeS_length (ini++[p]) r;omega⟩,by omega,?_⟩
       rw[hs2,e,List.map_append (l₁:=ini++[p]),show(ini++[p]++[r]).length=(ini++[p]).length+1 from by simp]
       exact⟨[(0,0),(1,4)],rfl,⟨rfl,rfl,rfl,rfl,trivial⟩,⟨rfl,rfl,trivial⟩⟩
    ·rw[List.take_of_length_le hkl]at hle⊢
     iterate 8 (all_goals((conv=>whnf);first|refine zG ?_|apply zA|(apply zI;intro h)|exact zT|skip))
     have hok:∀r,r∈d->r.lo<=r.hi:=fun r hr=>by
      have:=(List.mem_filter.1 (hperm.subset hr)).2
      simpa[okR]using this
     obtain⟨g1,g2,g3⟩:=fold_merge d [] canon_nil (fun p hp=>by simp at hp) hsort hok
     refine hK _ g1 (fun v=>?_) (by simp only[List.length_nil]at g3;omega)
     rw[g2,has_nil,Bool.false_or,Bool.eq_iff_iff,has_iff,has_iff]
     constructor
     ·rintro⟨r,hr,h1,h2⟩
      exact⟨r,(List.mem_filter.1 (hperm.subset hr)).1,h1,h2⟩
     ·rintro⟨r,hr,h1,h2⟩
      refine⟨r,hperm.symm.subset (List.mem_filter.2 ⟨hr,?_⟩),h1,h2⟩
      simp only[okR,decide_eq_true_eq];omega
noncomputable def g49:Ctx:={N:=27,hints:=at1 6 ([.virt 0 2]) (fun _=>[]),res:=true}
noncomputable def b49:Code:=bdy Tryz.f188
abbrev of49:=@ofC Tryz.prog g49 188 Tryz.f188 b49 Tryz.func188 zk zk zk zk
noncomputable def g40:Ctx:={N:=36,own:=at1 188 (true) (fun _=>false)}
noncomputable def b40:Code:=bdy Tryz.f143
abbrev of40:=@ofC Tryz.prog g40 143 Tryz.f143 b40 Tryz.func143 zk zk zk zk
def cmpI(x y:Int):Int:=if x<y then-1 else if y<x then 1 else 0
theorem c48(x y:Int){K:KT}(hK:K (.v (.int .i64 (cmpI x y))) []):ACall Tryz.prog 187 [.v (.int .u32 x),.v (.int .u32 y)] [] K:=by
 refine of48 rfl rfl ?_
 iterate 20 (all_goals((conv=>whnf);first|(with_reducible refine c54 _ ?_)|refine zG ?_|apply zA|(apply zI;intro h)|exact zT|skip))
 all_goals
  unfold cmpI at hK
 ·rw[if_pos zp]at hK;exact hK
 ·rw[if_neg zp,if_pos zp]at hK;exact hK
 ·rw[if_neg zp,if_neg zp]at hK;exact hK
theorem c47(r s:Rg){K:KT}(hK:K (.v (.int .i64 (cmpI r.lo s.lo))) []):ACall Tryz.prog 186 [.agg [.v (.int .u32 r.lo),.v (.int .u32 r.hi)],.agg [.v (.int .u32 s.lo),.v (.int .u32 s.hi)]] [] K:=by
 refine of47 rfl rfl ?_
 iterate 6 (all_goals((conv=>whnf);first|(with_reducible refine c48 _ _ ?_)|refine zG ?_|apply zA|(apply zI;intro h)|exact zT|skip))
 exact hK
theorem grow_ob{n m:Nat}{c:AV}(hn:n<2000000)(hm:m<10000)(hc:c.cells.all AV.one=true):((List.replicate n c).length+96)*m<=140737488355328/\∀x,x∈List.replicate n c->x.cells.all AV.one=true:=by
 refine⟨?_,fun x hx=>by rw[List.eq_of_mem_replicate hx];exact hc⟩
 rw[List.length_replicate]
 have h1:(n+96)*m<=2000096*10000:=Nat.mul_le_mul zo zo
 omega
theorem c49(n:Nat)(hn:n<2000000){K:KT}(hK:∀xs,K (.os 0 2 0 0) [.arr 2 xs]):ACall Tryz.prog 188 [.nils,.v (.int .i64 n)] [] K:=by
 refine of49 rfl rfl ?_
 iterate 20 (all_goals((conv=>whnf);first|(with_reducible first|refine Sb.intro 0 0 rfl rfl zo zo ?_|refine In.intro n zo zo ?_|refine Ob.intro (grow_ob hn zd (by with_unfolding_all rfl)) ?_)|refine zG ?_|apply zA|(apply zI;intro h)|exact zT|skip))
 ·exact hK _
 ·exact hK _
theorem c40(L:List (List Rg))(hL:L.length<1000)(hl:∀l,l∈L->l.length<1000){K:KT}(hK:K (encRs L.flatten) []):ACall Tryz.prog 143 [.lst (L.map encRs)] [] K:=by
 have sum_le:∀M:List (List Rg),(∀l,l∈M->l.length<1000)->M.flatten.length<=1000*M.length:=by
  intro M
  induction M with
  |nil=>intro _;simp
  |cons m M ih=>
   intro h
   have h1:=h m zx
   have h2:=ih fun l hl=>h l (by simp[hl])
   simp only[List.flatten_cons,List.length_append,List.length_cons]
   omega
 have next:∀{k:Nat} {l:List Rg},L[k]? =some l->(L.take (k+1)).flatten=(L.take k).flatten++l:=by
  intro k l h
  rw[List.take_add_one,h,Option.toList_some,List.flatten_append]
  simp
 have bound:∀k,k<=L.length->(L.take k).flatten.length<=1000000:=by
  intro k hk
  have:=sum_le (L.take k) fun l h=>hl l (List.mem_of_mem_take h)
  rw[List.length_take]at this
  omega
 refine of40 rfl rfl ?_
 (conv=>whnf)
 refine Lp.intro Nat (fun k=>⟨0,[],[(0,.lst (L.map encRs)),(3,.v (.int .i64 ((L.take k).flatten.length:Int))),(9,.lst (L.map encRs)),(10,.v (.int .i64 (L.map encRs).length)),(11,.v (.int .i64 k))]⟩) (fun k=>k<=L.length) (fun k=>L.length-k) 0 ?_ ?_ ?_
 ·exact Nat.zero_le _
 ·exact⟨[],rfl,⟨rfl,rfl,rfl,rfl,rfl,trivial⟩,trivial⟩
 ·intro k hk
  rcases Nat.lt_or_ge k L.length with hkl|hkl
  ·obtain⟨l,hx⟩:=gex hkl
   have hb:=bound k hk
   have hll:=hl l (List.mem_of_getElem? hx)
   have hn:=next hx
   have hlen:((L.take (k+1)).flatten.length:Int)=((L.take k).flatten.length:Int)+((l.map encR).length:Int):=by rw[hn,List.length_append,List.length_map];omega
   have hml:(l.map encR).length<1000:=by rw[List.length_map];exact hll
   generalize (L.take k).flatten.length=n at hb hlen
   iterate 30 (all_goals((conv=>whnf);first|(with_reducible first|refine in_map hkl ?_|refine ix_map hx ?_)|refine zG ?_|apply zA|(apply zI;intro h)|exact zT|skip))
   refine⟨k+1,by omega,by omega,?_⟩
   rw[hlen]
   exact⟨[],rfl,⟨rfl,rfl,rfl,rfl,rfl,trivial⟩,trivial⟩
  ·have e:L.take k=L:=List.take_of_length_le hkl
   have hb:=bound k hk
   rw[e]at hb⊢
   (conv=>whnf)
   refine br_neg (by rw[List.length_map];omega) ?_
   (conv=>whnf)
   refine c49 L.flatten.length zo fun xs=>?_
   (conv=>whnf)
   refine Lp.intro Nat (fun k=>⟨1,[(0,.arr 2 (if k=0 then xs else(L.take k).flatten.map encR))],[(6,.os 0 2 0 (L.take k).flatten.length),(25,.lst (L.map encRs)),(26,.v (.int .i64 (L.map encRs).length)),(27,.v (.int .i64 k))]⟩) (fun k=>k<=L.length) (fun k=>L.length-k) 0 ?_ ?_ ?_
   ·exact Nat.zero_le _
   ·exact⟨[(0,0)],rfl,⟨rfl,rfl,rfl,rfl,trivial⟩,⟨rfl,trivial⟩⟩
   ·intro k hk
    have tk:((if k=0 then xs else(L.take k).flatten.map encR).drop 0).take (L.take k).flatten.length=(L.take k).flatten.map encR:=by
     by_cases h0:k=0
     ·subst h0;simp
     ·rw[if_neg h0,List.drop_zero]
      exact List.take_of_length_le (by rw[List.length_map];exact Nat.le_refl _)
    have tl:0+(L.take k).flatten.length<=(if k=0 then xs else(L.take k).flatten.map encR).length:=by
     by_cases h0:k=0
     ·subst h0;simp
     ·rw[if_neg h0,List.length_map,Nat.zero_add];exact Nat.le_refl _
    rcases Nat.lt_or_ge k L.length with hkl|hkl
    ·obtain⟨l,hx⟩:=gex hkl
     have hb:=bound k hk
     have hll:=hl l (List.mem_of_getElem? hx)
     have hn:=next hx
     have hlen:(L.take (k+1)).flatten.length=(L.take k).flatten.length+(l.map encR).length:=by rw[hn,List.length_append,List.length_map]
     have hml:(l.map encR).length<1000:=by rw[List.length_map];exact hll
     iterate 30 (all_goals((conv=>whnf);first|(with_reducible first|refine in_map hkl ?_|refine ix_map hx ?_|refine Sl.intro tl tk ?_)|refine zG ?_|apply zA|(apply zI;intro h)|exact zT|skip))
     refine⟨k+1,by omega,by omega,?_⟩
     rw[if_neg (Nat.succ_ne_zero k),hlen,hn,List.map_append]
     exact⟨[(0,1)],rfl,⟨rfl,rfl,rfl,rfl,trivial⟩,⟨rfl,trivial⟩⟩
    ·have hkL:k=L.length:=by omega
     iterate 10 (all_goals((conv=>whnf);first|(with_reducible refine Sl.intro tl tk ?_)|refine zG ?_|apply zA|(apply zI;intro h)|exact zT|skip))
     rw[hkL,List.take_length]
     exact hK
noncomputable def g19:Ctx:={N:=71,plan:=at1 5 (some (ln [1,3,5,7,9,11,13,15,17,19,21,23,25,27,29,31,33,35,37,39,41,43,45,47])) (at1 8 (some (ln [1,3,5,7,9,11,13,15,17,19,21])) (fun _=>none)),hints:=at1 3 ([.virt 5 2]) (fun _=>[])}
noncomputable def b19:Code:=bdy Tryz.f183
abbrev of19:=@ofC Tryz.prog g19 183 Tryz.f183 b19 Tryz.func183 zk zk zk zk
noncomputable def g18:Ctx:={N:=10}
noncomputable def b18:Code:=bdy Tryz.f85
abbrev of18:=@ofC Tryz.prog g18 85 Tryz.f85 b18 Tryz.func85 zk zk zk zk
noncomputable abbrev itO(i n:Nat):Vm.Obj:=.box [.os i 7 0 n]
noncomputable abbrev arI(its:List It):Vm.Obj:=.arr 7 (its.map encIt)
def visS(x:It)(its:List It):Int×List It:=(0,its++[x])
theorem visS_sz(x:It)(its:List It)(h:(visS x its).1=0):(visS x its).2.length<=its.length+1000:=by
 simp[visS]
theorem cwAdI(x:It)(its:List It)(hl:its.length<100000000000){K:KT}(hK:K (.v (.int .i64 (visS x its).1)) [itO 2 (visS x its).2.length,.box [],arI (visS x its).2]):
  ACall Tryz.prog 93 [encIt x,.op 0 0] [itO 1 its.length,arI its] K:=by
 refine ofwS1 rfl rfl ?_
 (repeat' ((conv=>whnf);first|refine zG ?_|apply zA|(apply zI;intro h)|exact zT));(all_goals conv=>whnf)
 simp only[visS,itO,arI,List.length_append,List.map_append]at hK
 exact hK
noncomputable abbrev fsO(l:List Df):Vm.Obj:=.box [.lst (l.map encDf),.mp 1,.mp 2,.fn (.func 93) [] [.op 3 0]]
theorem cwFos(l:List Df)(hl:l.length<=999)(hit:∀d,d∈l->d.items.length<=999):∀(k:Nat) (p:List Nat) (nm:ByteArray) (d:List Nat) (rs:List It),Fine l p d->p.length+k=l.length+1->rs.length<=1000000*(d.length+p.length)->∀{K:KT},
  K (.v (.int .i64 (fol (visS) l k p nm d rs).1)) [fsO l,.map (nameM l p),.map (nameM l (fol (visS) l k p nm d rs).2.1),itO 5 (fol (visS) l k p nm d rs).2.2.length,.box [],arI (fol (visS) l k p nm d rs).2.2]->
  ACall Tryz.prog 144 [.op 0 0,.v (.string nm)] [fsO l,.map (nameM l p),.map (nameM l d),itO 4 rs.length,arI rs] K
 |0,p,nm,d,rs,hf,hk,hrs,K,hK=>by
  have:=hf.small
  omega
 |k+1,p,nm,d,rs,hf,hk,hrs,K,hK=>by
  refine ofwFos rfl rfl ?_
  have hsm:=hf.small
  cases hn:findD l nm with
  |none=>
   have hix:∀{K:KT},K (.v (.int .i64 (-1))) []->ACall Tryz.prog 179 [.lst (l.map encDf),.fn (.func 189) [] [.fp [.v (.string nm)]]] [] K:=fun {K} h=>
    cwIxD l nm zo (by rw[firstIx_find,hn];exact h)
   simp only[fol,hn]at hK
   (repeat' ((conv=>whnf);first|(with_reducible refine hix ?_)|refine zG ?_|apply zA|(apply zI;intro h)|exact zT));(all_goals conv=>whnf)
   exact hK
  |some n=>
   obtain⟨df,hdf,hname,hnl⟩:=findD_some hn
   have hix:∀{K:KT},K (.v (.int .i64 n)) []->ACall Tryz.prog 179 [.lst (l.map encDf),.fn (.func 189) [] [.fp [.v (.string nm)]]] [] K:=fun {K} h=>
    cwIxD l nm zo (by rw[firstIx_find,hn];exact h)
   by_cases hp:n∈p
   ·simp only[fol,hn,if_pos hp]at hK
    (repeat' ((conv=>whnf);first|(with_reducible first|refine hix ?_|refine mg_some (nameM_in hn hp) ?_)|refine zG ?_|apply zA|(apply zI;intro h)|exact zT));(all_goals conv=>whnf)
    exact hK
   by_cases hd:n∈d
   ·simp only[fol,hn,if_neg hp,if_pos hd]at hK
    (repeat' ((conv=>whnf);first|(with_reducible first|refine hix ?_|refine mg_none (nameM_out hf.pf hn hp) ?_|refine mg_some (nameM_in hn hd) ?_)|refine zG ?_|apply zA|(apply zI;intro h)|exact zT));(all_goals conv=>whnf)
    exact hK
   simp only[fol,hn,if_neg hp,if_neg hd,hdf,Option.map_some,Option.getD_some]at hK
   (repeat' ((conv=>whnf);first|(with_reducible first|refine hix ?_|refine mg_none (nameM_out hf.pf hn hp) ?_|refine mg_none (nameM_out hf.df hn hd) ?_|refine Mu.intro (updM_name hn) ?_|refine in_map hnl ?_|refine ix_map hdf ?_)|refine zG ?_|apply zA|(apply zI;intro h)|exact zT));(all_goals conv=>whnf)
   have hpush:=hf.push hn hp hd
   have hfed:=fun(q:Nat) nm d s h h0=>fol_fed (visS) List.length visS_sz l hit q (p++[n]) nm d s h h0
   have hlen:=hit df (List.mem_of_getElem? hdf)
   refine Lp.intro (Nat×List Nat×List It) (fun g=>⟨7,[(0,fsO l),(1,.map (nameM l (p++[n]))),(2,.map (nameM l g.2.1)),(3,itO 5 g.2.2.length),(5,arI g.2.2),(6,.box [.v (.string nm)])],[(0,.op 0 0),(3,.op 6 0),(49,.lst (df.items.map encIt)),(50,.v (.int .i64 (df.items.map encIt).length)),(51,.v (.int .i64 g.1)),(DS,.dfr 1 nm)]⟩)
    (fun g=>g.1<=df.items.length/\Fine l (p++[n]) g.2.1/\folI (visS) (fol (visS) l k (p++[n])) df.items d rs=folI (visS) (fol (visS) l k (p++[n])) (df.items.drop g.1) g.2.1 g.2.2/\d.length<=g.2.1.length/\g.2.2.length+1000000*d.length<=rs.length+1000000*g.2.1.length+1000*g.1)
    (fun g=>df.items.length-g.1) (0,d,rs) ⟨Nat.zero_le _,hpush,by rw[List.drop_zero],Nat.le_refl _,by simp only;omega⟩ ?_ ?_
   ·(exact leA)
   rintro⟨i,d1,rs1⟩ ⟨hi,hf1,heq,hd1,hsz⟩
   simp only at hi hf1 heq hd1 hsz⊢
   rcases Nat.lt_or_ge i df.items.length with hil|hil
   ·obtain⟨x,hx⟩:=gex hil
    have hdr:df.items.drop i=x::df.items.drop (i+1):=by
     rw[List.drop_eq_getElem_cons hil]
     congr 1
     rw[List.getElem?_eq_getElem hil]at hx;cases hx;rfl
    rw[hdr,folI_cons]at heq
    have hsm1:=hf1.small
    rw[List.length_append,List.length_singleton]at hsm1
    by_cases hk3:x.kind=3
    ·simp only[if_pos hk3]at heq
     have hc:=fun {K} h=>@cwFos l hl hit k (p++[n]) x.name d1 rs1 hf1 (by rw[List.length_append];simp only[List.length_singleton];omega) (by rw[List.length_append];simp only[List.length_singleton];omega) K h
     have hfq:=hfed k x.name d1 rs1 hf1
     generalize fol (visS) l k (p++[n]) x.name d1 rs1=q at*
     obtain⟨qe,qd,qs⟩:=q
     simp only at heq hc hfq
     (repeat' ((conv=>whnf);first|(with_reducible first|refine in_map hil ?_|refine ix_map hx ?_|refine hc ?_|refine Mu.intro (delM_name hf.pf hn hp) ?_)|refine zG ?_|apply zA|(apply zI;intro h)|exact zT));(all_goals conv=>whnf)
     all_goals first
      |(have hne:¬qe=0:=by first|assumption|(intro e;simp_all;done)
        rw[heq,if_neg hne]at hK
        simp only[if_neg hne]at hK
        exact hK)
      |(have h0:qe=0:=by first|assumption|(simp_all;done)
        have hfq:=hfq h0
        refine⟨(i+1,qd,qs),⟨hil,hfq.fine,by rw[heq,if_pos h0],by have:=hfq.le;simp only;omega,by have:=hfq.size;simp only;omega⟩,by simp only;omega,?_⟩
        simp only[Int.natCast_add,Int.natCast_one]
        (exact leA)
        done)
      |trace_state
    ·simp only[if_neg hk3]at heq
     have hc:=fun {K} h=>@cwAdI x rs1 zo K h
     have hvz:=visS_sz x rs1
     generalize visS x rs1=q at*
     obtain⟨qe,qs⟩:=q
     simp only at heq hc hvz
     (repeat' ((conv=>whnf);first|(with_reducible first|refine in_map hil ?_|refine ix_map hx ?_|refine hc ?_|refine Mu.intro (delM_name hf.pf hn hp) ?_)|refine zG ?_|apply zA|(apply zI;intro h)|exact zT));(all_goals conv=>whnf)
     all_goals first
      |(have hne:¬qe=0:=by first|assumption|(intro e;simp_all;done)
        rw[heq,if_neg hne]at hK
        simp only[if_neg hne]at hK
        exact hK)
      |(have h0:qe=0:=by first|assumption|(simp_all;done)
        have hvz:=hvz h0
        refine⟨(i+1,d1,qs),⟨hil,hf1,by rw[heq,if_pos h0],by skip;simp only;omega,by skip;simp only;omega⟩,by simp only;omega,?_⟩
        simp only[Int.natCast_add,Int.natCast_one]
        (exact leA)
        done)
      |trace_state
   ·have hie:i=df.items.length:=by omega
    rw[hie,List.drop_length,folI_nil]at heq
    rw[heq]at hK
    simp only[if_true]at hK
    (repeat' ((conv=>whnf);first|(with_reducible first|refine Mu.intro (updM_name hn) ?_|refine Mu.intro (delM_name hf.pf hn hp) ?_)|refine zG ?_|apply zA|(apply zI;intro h)|exact zT));(all_goals conv=>whnf)
    exact hK
noncomputable def gkDig:Ctx:={N:=13}
noncomputable def bkDig:Code:=bdy Tryz.f206
abbrev ofkDig:=@ofC Tryz.prog gkDig 206 Tryz.f206 bkDig Tryz.func206 zk zk zk zk
noncomputable def gkTime:Ctx:={N:=11}
noncomputable def bkTime:Code:=bdy Tryz.f184
abbrev ofkTime:=@ofC Tryz.prog gkTime 184 Tryz.f184 bkTime Tryz.func184 zk zk zk zk
noncomputable def gkForm:Ctx:={N:=69,plan:=at1 15 (some (ln [1,3,5,7,9,11,13,15,21,23,25,27,29,31,33,16,19,34,37,38,40,43])) (fun _=>none),hints:=at1 6 ([.virt 3 1]) (fun _=>[]),cut:=at1 9 (true) (at1 15 (true) (fun _=>false))}
noncomputable def bkForm:Code:=bdy Tryz.f136
abbrev ofkForm:=@ofC Tryz.prog gkForm 136 Tryz.f136 bkForm Tryz.func136 zk zk zk zk
noncomputable def giEmp:Ctx:={N:=9}
noncomputable def biEmp:Code:=bdy Tryz.f140
abbrev ofiEmp:=@ofC Tryz.prog giEmp 140 Tryz.f140 biEmp Tryz.func140 zk zk zk zk
noncomputable def giPrt:Ctx:={N:=35}
noncomputable def biPrt:Code:=bdy Tryz.f181
abbrev ofiPrt:=@ofC Tryz.prog giPrt 181 Tryz.f181 biPrt Tryz.func181 zk zk zk zk
noncomputable def giItem:Ctx:={N:=78}
noncomputable def biItem:Code:=bdy Tryz.f135
abbrev ofiItem:=@ofC Tryz.prog giItem 135 Tryz.f135 biItem Tryz.func135 zk zk zk zk
noncomputable def giFind:Ctx:={N:=8}
noncomputable def biFind:Code:=bdy Tryz.f134
abbrev ofiFind:=@ofC Tryz.prog giFind 134 Tryz.f134 biFind Tryz.func134 zk zk zk zk
noncomputable def giFind1:Ctx:={N:=8}
noncomputable def biFind1:Code:=bdy Tryz.f180
abbrev ofiFind1:=@ofC Tryz.prog giFind1 180 Tryz.f180 biFind1 Tryz.func180 zk zk zk zk
noncomputable def giDefs:Ctx:={N:=56,cut:=at1 6 (true) (fun _=>false)}
noncomputable def biDefs:Code:=bdy Tryz.f75
abbrev ofiDefs:=@ofC Tryz.prog giDefs 75 Tryz.f75 biDefs Tryz.func75 zk zk zk zk
noncomputable def giWnd:Ctx:={N:=8}
noncomputable def biWnd:Code:=bdy Tryz.f78
abbrev ofiWnd:=@ofC Tryz.prog giWnd 78 Tryz.f78 biWnd Tryz.func78 zk zk zk zk
noncomputable def giWnd1:Ctx:={N:=8}
noncomputable def biWnd1:Code:=bdy Tryz.f138
abbrev ofiWnd1:=@ofC Tryz.prog giWnd1 138 Tryz.f138 biWnd1 Tryz.func138 zk zk zk zk
noncomputable def giIxW:Ctx:={N:=19}
noncomputable def biIxW:Code:=bdy Tryz.f137
abbrev ofiIxW:=@ofC Tryz.prog giIxW 137 Tryz.f137 biIxW Tryz.func137 zk zk zk zk
noncomputable def giWri:Ctx:={N:=18}
noncomputable def biWri:Code:=bdy Tryz.f76
abbrev ofiWri:=@ofC Tryz.prog giWri 76 Tryz.f76 biWri Tryz.func76 zk zk zk zk
noncomputable def giSm:Ctx:={N:=62}
noncomputable def biSm:Code:=bdy Tryz.f82
abbrev ofiSm:=@ofC Tryz.prog giSm 82 Tryz.f82 biSm Tryz.func82 zk zk zk zk
noncomputable def giVal1:Ctx:={N:=9}
noncomputable def biVal1:Code:=bdy Tryz.f79
abbrev ofiVal1:=@ofC Tryz.prog giVal1 79 Tryz.f79 biVal1 Tryz.func79 zk zk zk zk
noncomputable def giVal2:Ctx:={N:=6}
noncomputable def biVal2:Code:=bdy Tryz.f81
abbrev ofiVal2:=@ofC Tryz.prog giVal2 81 Tryz.f81 biVal2 Tryz.func81 zk zk zk zk
noncomputable def giIxS:Ctx:={N:=19}
noncomputable def biIxS:Code:=bdy Tryz.f139
abbrev ofiIxS:=@ofC Tryz.prog giIxS 139 Tryz.f139 biIxS Tryz.func139 zk zk zk zk
noncomputable def giAnS:Ctx:={N:=9}
noncomputable def biAnS:Code:=bdy Tryz.f80
abbrev ofiAnS:=@ofC Tryz.prog giAnS 80 Tryz.f80 biAnS Tryz.func80 zk zk zk zk
noncomputable def giVal:Ctx:={N:=157,cut:=at1 3 (true) (fun _=>false)}
noncomputable def biVal:Code:=bdy Tryz.f45
abbrev ofiVal:=@ofC Tryz.prog giVal 45 Tryz.f45 biVal Tryz.func45 zk zk zk zk
section
variable {I:List (Int×Rg)} {X:List Bx}
theorem vals(p:Nat->Int)(e:Int):setF p 2 e 2=e/\setF p 2 e 3=p 3/\setF p 2 e 4=p 4:=⟨rfl,rfl,rfl⟩
end
end Go.Proofs.YtahhamfngafmcaaGreatDoor
