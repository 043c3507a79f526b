/- interval.canonical, but for the sort. -/
import Derived.Test.YtbdikofefjljoaaGreatDoorProg
import Derived.Test.YtbdikofefjljoaaGreatDoorK17
set_option linter.unusedVariables false
set_option linter.unusedSimpArgs false
set_option maxRecDepth 100000
set_option maxHeartbeats 4000000
namespace Go.Proofs.YtbdikofefjljoaaGreatDoor
open Go Go.Vm
def Sorts:Prop:=∀(d:List Rg) (n:Nat),n=d.length->d.length<1000000->∀K:AV->List Vm.Obj->Prop,(∀d':List Rg,d'.Perm d->d'.Pairwise (fun r s=>r.lo<=s.lo)->K (.tup []) [.arr 2 (d'.map encR)])->
 ACall Tryz.prog 302 [.os 0 2 0 n,.fn (.func 303) [] []] [.arr 2 (d.map encR)] K
def mergeS(out:List Rg)(r:Rg):List Rg:=
 match out.getLast? with
 |some p=>if r.lo<=p.hi+1 then out.dropLast++[mkR p.lo (max p.hi r.hi)]else out++[r]
 |none=>[r]
theorem mergeS_length(out:List Rg)(r:Rg):(mergeS out r).length<=out.length+1:=by
 unfold mergeS
 split
 ·split<;>simp
 ·simp
theorem mergeS_inv{out:List Rg}{r:Rg}(hc:Canon out)(hlo:∀p,p∈out->p.lo<=r.lo)(hr:r.lo<=r.hi):Canon (mergeS out r)/\(∀v,has (mergeS out r) v=(has out v||has [r] v))/\∀p,p∈mergeS out r->p.lo<=r.lo:=by
 have b1:=r.l0;have b2:=r.l1;have b3:=r.h0;have b4:=r.h1
 unfold mergeS
 rcases List.eq_nil_or_concat out with hnil|⟨ini,p,hcat⟩
 ·subst hnil
  refine⟨?_,fun v=>by simp[has],fun p hp=>by simp at hp;subst hp;exact Int.le_refl _⟩
  have:=canon_append_one canon_nil hr (fun s hs=>by simp at hs)
  simpa using this
 ·rw[List.concat_eq_append]at hcat
  subst hcat
  simp only[List.getLast?_append,List.getLast?_singleton,Option.some_or,List.dropLast_concat]
  have p1:=p.l0;have p2:=p.l1;have p3:=p.h0;have p4:=p.h1
  have hpw:=List.pairwise_append.1 hc.2
  have hp1:=hc.1 p zx
  have hp2:=hlo p zx
  have hx:0<=max p.hi r.hi/\max p.hi r.hi<=4294967295:=by omega
  split
  ·rename_i he
   have ci:Canon ini:=⟨fun t ht=>hc.1 t (by simp[ht]),hpw.1⟩
   refine⟨canon_append_one ci (by rw[mkR_lo p1 p2 hx.1 hx.2,mkR_hi p1 p2 hx.1 hx.2];omega) (fun s hs=>by rw[mkR_lo p1 p2 hx.1 hx.2];exact hpw.2.2 s hs p zx),fun v=>?_,fun q hq=>?_⟩
   ·rw[has_append,has_append,has_one,has_one,has_one,mkR_lo p1 p2 hx.1 hx.2,mkR_hi p1 p2 hx.1 hx.2,Bool.or_assoc]
    congr 1
    rw[Bool.eq_iff_iff]
    simp only[Bool.or_eq_true,Bool.and_eq_true,decide_eq_true_eq]
    omega
   ·rcases List.mem_append.1 hq with hq|hq
    ·exact hlo q (by simp[hq])
    ·simp at hq;subst hq;rw[mkR_lo p1 p2 hx.1 hx.2];exact hp2
  ·rename_i he
   refine⟨canon_append_one hc hr (fun s hs=>?_),fun v=>has_append _ _ v,fun q hq=>?_⟩
   ·rcases List.mem_append.1 hs with hs|hs
    ·have:=hpw.2.2 s hs p zx;omega
    ·simp at hs;subst hs;omega
   ·rcases List.mem_append.1 hq with hq|hq
    ·exact hlo q hq
    ·simp at hq;subst hq;exact Int.le_refl _
theorem fold_merge:∀(d out:List Rg),Canon out->(∀p,p∈out->∀r,r∈d->p.lo<=r.lo)->d.Pairwise (fun r s=>r.lo<=s.lo)->(∀r,r∈d->r.lo<=r.hi)->
  Canon (d.foldl mergeS out)/\(∀v,has (d.foldl mergeS out) v=(has out v||has d v))/\(d.foldl mergeS out).length<=out.length+d.length
 |[],out,hc,_,_,_=>⟨hc,fun v=>by simp[has],by simp⟩
 |r::d,out,hc,hlo,hp,hok=>by
  have⟨hp1,hp2⟩:=List.pairwise_cons.1 hp
  obtain⟨h1,h2,h3⟩:=mergeS_inv hc (fun p hpm=>hlo p hpm r zx) (hok r zx)
  obtain⟨g1,g2,g3⟩:=fold_merge d (mergeS out r) h1 (fun p hpm s hs=>Int.le_trans (h3 p hpm) (hp1 s hs)) hp2 (fun s hs=>hok s (by simp[hs]))
  refine⟨g1,fun v=>?_,?_⟩
  ·rw[List.foldl_cons,g2,h2,Bool.or_assoc,<-has_append];rfl
  ·have:=mergeS_length out r
   simp only[List.foldl_cons,List.length_cons];omega
def okR(r:Rg):Bool:=decide (r.lo<=r.hi)
theorem c39(hs:Sorts)(l:List Rg)(hl:l.length<100000){K:KT}(hK:∀c,Canon c->(∀v,has c v=has l v)->c.length<=l.length->K (encRs c) []):ACall Tryz.prog 257 [encRs l] [] K:=by
 refine of39 rfl rfl ?_
 (conv=>whnf)
 refine Lp.intro Nat (fun k=>⟨2,[(0,.arr 2 (((l.take k).filter okR).map encR)),(1,.arr 2 [])],[(3,.os 0 2 0 ((l.take k).filter okR).length),(4,.os 1 2 0 0),(10,encRs l),(11,.v (.int .i64 (l.map encR).length)),(12,.v (.int .i64 k))]⟩) (fun k=>k<=l.length) (fun k=>l.length-k) 0 ?_ ?_ ?_
 ·exact Nat.zero_le _
 ·exact⟨[(0,0),(1,1)],rfl,⟨rfl,rfl,rfl,rfl,rfl,trivial⟩,⟨rfl,rfl,trivial⟩⟩
 ·intro k hk
  rcases Nat.lt_or_ge k l.length with hkl|hkl
  ·obtain⟨r,hr⟩:=gex hkl
   have b1:=r.l0;have b2:=r.l1;have b3:=r.h0;have b4:=r.h1
   have e:(l.take (k+1)).filter okR=(l.take k).filter okR++(if r.lo<=r.hi then [r]else []):=by
    rw[List.take_add_one,hr,Option.toList_some,List.filter_append]
    simp only[okR,List.filter_cons,List.filter_nil,decide_eq_true_eq]
   have hlen:((l.take k).filter okR).length<=l.length:=Nat.le_trans (List.length_filter_le _ _) (by rw[List.length_take];omega)
   iterate 30 (all_goals((conv=>whnf);first|(with_reducible first|refine in_map hkl ?_|refine ix_map hr ?_)|refine zG ?_|apply zA|(apply zI;intro h)|exact zT|skip))
   ·refine⟨k+1,by omega,by omega,?_⟩
    rw[e,if_pos zp,List.map_append,List.length_append]
    exact⟨[(0,4),(1,1)],rfl,⟨rfl,rfl,rfl,rfl,rfl,trivial⟩,⟨rfl,rfl,trivial⟩⟩
   ·refine⟨k+1,by omega,by omega,?_⟩
    rw[e,if_neg zp,List.append_nil]
    exact⟨[(0,0),(1,1)],rfl,⟨rfl,rfl,rfl,rfl,rfl,trivial⟩,⟨rfl,rfl,trivial⟩⟩
  ·rw[List.take_of_length_le hkl]
   have hlen:(l.filter okR).length<=l.length:=List.length_filter_le _ _
   iterate 6 (all_goals((conv=>whnf);first|(with_reducible refine in_map hkl ?_)|refine zG ?_|apply zA|(apply zI;intro h)|exact zT|skip))
   refine hs (l.filter okR) _ rfl zo _ fun d hperm hsort=>?_
   have hn:(l.filter okR).length=d.length:=hperm.length_eq.symm
   rw[hn]
   (conv=>whnf)
   refine Lp.intro Nat (fun k=>⟨2,[(0,.arr 2 (d.map encR)),(1,.arr 2 (((d.take k).foldl mergeS []).map encR))],[(4,.os 1 2 0 ((d.take k).foldl mergeS []).length),(28,.os 0 2 0 d.length),(29,.v (.int .i64 d.length)),(30,.v (.int .i64 k))]⟩) (fun k=>k<=d.length/\((d.take k).foldl mergeS []).length<=k) (fun k=>d.length-k) 0 ?_ ?_ ?_
   ·exact⟨Nat.zero_le _,by simp⟩
   ·exact⟨[(0,0),(1,1)],rfl,⟨rfl,rfl,rfl,rfl,trivial⟩,⟨rfl,rfl,trivial⟩⟩
   ·intro k ⟨hk,hle⟩
    rcases Nat.lt_or_ge k d.length with hkl|hkl
    ·obtain⟨r,hr⟩:=gex hkl
     have hr0:d[0+k]? =some r:=by rw[Nat.zero_add];exact hr
     have b1:=r.l0;have b2:=r.l1;have b3:=r.h0;have b4:=r.h1
     have hs2:=foldl_succ (f:=mergeS) (b:=[]) hr
     generalize hout:(d.take k).foldl mergeS []=out at hs2 hle⊢
     have hj:(k:Int)<(d.length:Int):=by omega
     rcases List.eq_nil_or_concat out with hnil|⟨ini,p,hcat⟩
     ·subst hnil
      iterate 30 (all_goals((conv=>whnf);first|(with_reducible first|refine In.intro k rfl zo ?_|refine ix_map hr ?_|refine ix_map hr0 ?_)|refine zG ?_|apply zA|(apply zI;intro h)|exact zT|skip))
      refine⟨k+1,⟨by omega,by rw[hs2];simp[mergeS]⟩,by omega,?_⟩
      rw[hs2,show mergeS [] r=[r]from rfl]
      exact⟨[(0,0),(1,4)],rfl,⟨rfl,rfl,rfl,rfl,trivial⟩,⟨rfl,rfl,trivial⟩⟩
     ·rw[List.concat_eq_append]at hcat
      subst hcat
      have p1:=p.l0;have p2:=p.l1;have p3:=p.h0;have p4:=p.h1
      have hp:(ini++[p])[ini.length]? =some p:=by simp
      have hp0:(ini++[p])[0+ini.length]? =some p:=by simp
      have hi:((((ini++[p]).length:Nat):Int)-1=ini.length)/\ini.length<(ini++[p]).length:=by simp
      iterate 40 (all_goals((conv=>whnf);first|(with_reducible first|refine In.intro k rfl zo ?_|refine ix_map hr ?_|refine ix_map hr0 ?_|refine In.intro ini.length hi.1 hi.2 ?_|refine ix_map hp ?_|refine ix_map hp0 ?_)|refine zG ?_|apply zA|(apply zI;intro h)|exact zT|skip))
      ·have e:mergeS (ini++[p]) r=ini++[mkR p.lo (max p.hi r.hi)]:=by
        simp only[mergeS,List.getLast?_append,List.getLast?_singleton,Option.some_or,List.dropLast_concat]
        rw[if_pos zp]
       refine⟨k+1,⟨by omega,by rw[hs2];have:=mergeS_length (ini++[p]) r;omega⟩,by omega,?_⟩
       rw[hs2,e,List.map_append,List.map_cons,List.map_nil,enc_mkR zo zo zo zo]
       have e2:(ini.map encR++[.agg [.v (.int .u32 p.lo),.v (.int .u32 (max p.hi r.hi))]])=((ini++[p]).map encR).set (0+ini.length) (.agg [.v (.int .u32 p.lo),.v (.int .u32 (max p.hi r.hi))]):=by
        rw[List.map_append,List.set_append_right _ _ zx]
        simp
       rw[e2,show(ini++[mkR p.lo (max p.hi r.hi)]).length=(ini++[p]).length by simp]
       exact⟨[(0,0),(1,1)],rfl,⟨rfl,rfl,rfl,rfl,trivial⟩,⟨rfl,rfl,trivial⟩⟩
      ·have e:mergeS (ini++[p]) r=ini++[p]++[r]:=by
        simp only[mergeS,List.getLast?_append,List.getLast?_singleton,Option.some_or,List.dropLast_concat]
        rw[if_neg zp]
       refine⟨k+1,⟨by omega,by rw[hs2];have:=mergeS_length (ini++[p]) r;omega⟩,by omega,?_⟩
       rw[hs2,e,List.map_append (l₁:=ini++[p]),show(ini++[p]++[r]).length=(ini++[p]).length+1 from by simp]
       exact⟨[(0,0),(1,4)],rfl,⟨rfl,rfl,rfl,rfl,trivial⟩,⟨rfl,rfl,trivial⟩⟩
    ·rw[List.take_of_length_le hkl]at hle⊢
     iterate 8 (all_goals((conv=>whnf);first|refine zG ?_|apply zA|(apply zI;intro h)|exact zT|skip))
     have hok:∀r,r∈d->r.lo<=r.hi:=fun r hr=>by
      have:=(List.mem_filter.1 (hperm.subset hr)).2
      simpa[okR]using this
     obtain⟨g1,g2,g3⟩:=fold_merge d [] canon_nil (fun p hp=>by simp at hp) hsort hok
     refine hK _ g1 (fun v=>?_) (by simp only[List.length_nil]at g3;omega)
     rw[g2,has_nil,Bool.false_or,Bool.eq_iff_iff,has_iff,has_iff]
     constructor
     ·rintro⟨r,hr,h1,h2⟩
      exact⟨r,(List.mem_filter.1 (hperm.subset hr)).1,h1,h2⟩
     ·rintro⟨r,hr,h1,h2⟩
      refine⟨r,hperm.symm.subset (List.mem_filter.2 ⟨hr,?_⟩),h1,h2⟩
      simp only[okR,decide_eq_true_eq];omega
noncomputable def g49:Ctx:={N:=27,hints:=at1 6 ([.virt 0 2]) (fun _=>[]),res:=true}
noncomputable def b49:Code:=bdy Tryz.f305
abbrev of49:=@ofC Tryz.prog g49 305 Tryz.f305 b49 Tryz.func305 zk zk zk zk
noncomputable def g40:Ctx:={N:=36,own:=at1 305 (true) (fun _=>false)}
noncomputable def b40:Code:=bdy Tryz.f258
abbrev of40:=@ofC Tryz.prog g40 258 Tryz.f258 b40 Tryz.func258 zk zk zk zk
def cmpI(x y:Int):Int:=if x<y then-1 else if y<x then 1 else 0
theorem c48(x y:Int){K:KT}(hK:K (.v (.int .i64 (cmpI x y))) []):ACall Tryz.prog 304 [.v (.int .u32 x),.v (.int .u32 y)] [] K:=by
 refine of48 rfl rfl ?_
 iterate 20 (all_goals((conv=>whnf);first|(with_reducible refine c54 _ ?_)|refine zG ?_|apply zA|(apply zI;intro h)|exact zT|skip))
 all_goals
  unfold cmpI at hK
 ·rw[if_pos zp]at hK;exact hK
 ·rw[if_neg zp,if_pos zp]at hK;exact hK
 ·rw[if_neg zp,if_neg zp]at hK;exact hK
theorem c47(r s:Rg){K:KT}(hK:K (.v (.int .i64 (cmpI r.lo s.lo))) []):ACall Tryz.prog 303 [.agg [.v (.int .u32 r.lo),.v (.int .u32 r.hi)],.agg [.v (.int .u32 s.lo),.v (.int .u32 s.hi)]] [] K:=by
 refine of47 rfl rfl ?_
 iterate 6 (all_goals((conv=>whnf);first|(with_reducible refine c48 _ _ ?_)|refine zG ?_|apply zA|(apply zI;intro h)|exact zT|skip))
 exact hK
theorem grow_ob{n m:Nat}{c:AV}(hn:n<2000000)(hm:m<10000)(hc:c.cells.all AV.one=true):((List.replicate n c).length+96)*m<=140737488355328/\∀x,x∈List.replicate n c->x.cells.all AV.one=true:=by
 refine⟨?_,fun x hx=>by rw[List.eq_of_mem_replicate hx];exact hc⟩
 rw[List.length_replicate]
 have h1:(n+96)*m<=2000096*10000:=Nat.mul_le_mul zo zo
 omega
theorem c49(n:Nat)(hn:n<2000000){K:KT}(hK:∀xs,K (.os 0 2 0 0) [.arr 2 xs]):ACall Tryz.prog 305 [.nils,.v (.int .i64 n)] [] K:=by
 refine of49 rfl rfl ?_
 iterate 20 (all_goals((conv=>whnf);first|(with_reducible first|refine Sb.intro 0 0 rfl rfl zo zo ?_|refine In.intro n zo zo ?_|refine Ob.intro (grow_ob hn zd (by with_unfolding_all rfl)) ?_)|refine zG ?_|apply zA|(apply zI;intro h)|exact zT|skip))
 ·exact hK _
 ·exact hK _
theorem c40(L:List (List Rg))(hL:L.length<1000)(hl:∀l,l∈L->l.length<1000){K:KT}(hK:K (encRs L.flatten) []):ACall Tryz.prog 258 [.lst (L.map encRs)] [] K:=by
 have sum_le:∀M:List (List Rg),(∀l,l∈M->l.length<1000)->M.flatten.length<=1000*M.length:=by
  intro M
  induction M with
  |nil=>intro _;simp
  |cons m M ih=>
   intro h
   have h1:=h m zx
   have h2:=ih fun l hl=>h l (by simp[hl])
   simp only[List.flatten_cons,List.length_append,List.length_cons]
   omega
 have next:∀{k:Nat} {l:List Rg},L[k]? =some l->(L.take (k+1)).flatten=(L.take k).flatten++l:=by
  intro k l h
  rw[List.take_add_one,h,Option.toList_some,List.flatten_append]
  simp
 have bound:∀k,k<=L.length->(L.take k).flatten.length<=1000000:=by
  intro k hk
  have:=sum_le (L.take k) fun l h=>hl l (List.mem_of_mem_take h)
  rw[List.length_take]at this
  omega
 refine of40 rfl rfl ?_
 (conv=>whnf)
 refine Lp.intro Nat (fun k=>⟨0,[],[(0,.lst (L.map encRs)),(3,.v (.int .i64 ((L.take k).flatten.length:Int))),(9,.lst (L.map encRs)),(10,.v (.int .i64 (L.map encRs).length)),(11,.v (.int .i64 k))]⟩) (fun k=>k<=L.length) (fun k=>L.length-k) 0 ?_ ?_ ?_
 ·exact Nat.zero_le _
 ·exact⟨[],rfl,⟨rfl,rfl,rfl,rfl,rfl,trivial⟩,trivial⟩
 ·intro k hk
  rcases Nat.lt_or_ge k L.length with hkl|hkl
  ·obtain⟨l,hx⟩:=gex hkl
   have hb:=bound k hk
   have hll:=hl l (List.mem_of_getElem? hx)
   have hn:=next hx
   have hlen:((L.take (k+1)).flatten.length:Int)=((L.take k).flatten.length:Int)+((l.map encR).length:Int):=by rw[hn,List.length_append,List.length_map];omega
   have hml:(l.map encR).length<1000:=by rw[List.length_map];exact hll
   generalize (L.take k).flatten.length=n at hb hlen
   iterate 30 (all_goals((conv=>whnf);first|(with_reducible first|refine in_map hkl ?_|refine ix_map hx ?_)|refine zG ?_|apply zA|(apply zI;intro h)|exact zT|skip))
   refine⟨k+1,by omega,by omega,?_⟩
   rw[hlen]
   exact⟨[],rfl,⟨rfl,rfl,rfl,rfl,rfl,trivial⟩,trivial⟩
  ·have e:L.take k=L:=List.take_of_length_le hkl
   have hb:=bound k hk
   rw[e]at hb⊢
   (conv=>whnf)
   refine br_neg (by rw[List.length_map];omega) ?_
   (conv=>whnf)
   refine c49 L.flatten.length zo fun xs=>?_
   (conv=>whnf)
   refine Lp.intro Nat (fun k=>⟨1,[(0,.arr 2 (if k=0 then xs else(L.take k).flatten.map encR))],[(6,.os 0 2 0 (L.take k).flatten.length),(25,.lst (L.map encRs)),(26,.v (.int .i64 (L.map encRs).length)),(27,.v (.int .i64 k))]⟩) (fun k=>k<=L.length) (fun k=>L.length-k) 0 ?_ ?_ ?_
   ·exact Nat.zero_le _
   ·exact⟨[(0,0)],rfl,⟨rfl,rfl,rfl,rfl,trivial⟩,⟨rfl,trivial⟩⟩
   ·intro k hk
    have tk:((if k=0 then xs else(L.take k).flatten.map encR).drop 0).take (L.take k).flatten.length=(L.take k).flatten.map encR:=by
     by_cases h0:k=0
     ·subst h0;simp
     ·rw[if_neg h0,List.drop_zero]
      exact List.take_of_length_le (by rw[List.length_map];exact Nat.le_refl _)
    have tl:0+(L.take k).flatten.length<=(if k=0 then xs else(L.take k).flatten.map encR).length:=by
     by_cases h0:k=0
     ·subst h0;simp
     ·rw[if_neg h0,List.length_map,Nat.zero_add];exact Nat.le_refl _
    rcases Nat.lt_or_ge k L.length with hkl|hkl
    ·obtain⟨l,hx⟩:=gex hkl
     have hb:=bound k hk
     have hll:=hl l (List.mem_of_getElem? hx)
     have hn:=next hx
     have hlen:(L.take (k+1)).flatten.length=(L.take k).flatten.length+(l.map encR).length:=by rw[hn,List.length_append,List.length_map]
     have hml:(l.map encR).length<1000:=by rw[List.length_map];exact hll
     iterate 30 (all_goals((conv=>whnf);first|(with_reducible first|refine in_map hkl ?_|refine ix_map hx ?_|refine Sl.intro tl tk ?_)|refine zG ?_|apply zA|(apply zI;intro h)|exact zT|skip))
     refine⟨k+1,by omega,by omega,?_⟩
     rw[if_neg (Nat.succ_ne_zero k),hlen,hn,List.map_append]
     exact⟨[(0,1)],rfl,⟨rfl,rfl,rfl,rfl,trivial⟩,⟨rfl,trivial⟩⟩
    ·have hkL:k=L.length:=by omega
     iterate 10 (all_goals((conv=>whnf);first|(with_reducible refine Sl.intro tl tk ?_)|refine zG ?_|apply zA|(apply zI;intro h)|exact zT|skip))
     rw[hkL,List.take_length]
     exact hK
noncomputable def g19:Ctx:={N:=71,plan:=at1 5 (some (ln [1,3,5,7,9,11,13,15,17,19,21,23,25,27,29,31,33,35,37,39,41,43,45,47])) (at1 8 (some (ln [1,3,5,7,9,11,13,15,17,19,21])) (fun _=>none)),hints:=at1 3 ([.virt 5 2]) (fun _=>[])}
noncomputable def b19:Code:=bdy Tryz.f297
abbrev of19:=@ofC Tryz.prog g19 297 Tryz.f297 b19 Tryz.func297 zk zk zk zk
noncomputable def g18:Ctx:={N:=10}
noncomputable def b18:Code:=bdy Tryz.f186
abbrev of18:=@ofC Tryz.prog g18 186 Tryz.f186 b18 Tryz.func186 zk zk zk zk
noncomputable def gwZone1:Ctx:={N:=8}
noncomputable def bwZone1:Code:=bdy Tryz.f320
abbrev ofwZone1:=@ofC Tryz.prog gwZone1 320 Tryz.f320 bwZone1 Tryz.func320 zk zk zk zk
noncomputable def gwZone:Ctx:={N:=8}
noncomputable def bwZone:Code:=bdy Tryz.f265
abbrev ofwZone:=@ofC Tryz.prog gwZone 265 Tryz.f265 bwZone Tryz.func265 zk zk zk zk
noncomputable def gwIdx:Ctx:={N:=25,hints:=at1 2 ([.virt 5 1]) (fun _=>[])}
noncomputable def bwIdx:Code:=bdy Tryz.f319
abbrev ofwIdx:=@ofC Tryz.prog gwIdx 319 Tryz.f319 bwIdx Tryz.func319 zk zk zk zk
noncomputable def gwIxD:Ctx:={N:=19}
noncomputable def bwIxD:Code:=bdy Tryz.f293
abbrev ofwIxD:=@ofC Tryz.prog gwIxD 293 Tryz.f293 bwIxD Tryz.func293 zk zk zk zk
noncomputable def gwFol1:Ctx:={N:=8}
noncomputable def bwFol1:Code:=bdy Tryz.f335
abbrev ofwFol1:=@ofC Tryz.prog gwFol1 335 Tryz.f335 bwFol1 Tryz.func335 zk zk zk zk
noncomputable def gwG1:Ctx:={N:=14,np:=2,out:=true}
noncomputable def bwG1:Code:=bdy Tryz.f262
abbrev ofwG1:=@ofC Tryz.prog gwG1 262 Tryz.f262 bwG1 Tryz.func262 zk zk zk zk
noncomputable def gwG2:Ctx:={N:=37,np:=4,own:=at1 262 (true) (fun _=>false),plan:=at1 10 (some (ln [1,3,5,7,9,11,13,14])) (fun _=>none),hints:=at1 0 ([.renewI 2 0]) (fun _=>[]),out:=true}
noncomputable def bwG2:Code:=bdy Tryz.f264
abbrev ofwG2:=@ofC Tryz.prog gwG2 264 Tryz.f264 bwG2 Tryz.func264 zk zk zk zk
noncomputable def gwFol:Ctx:={N:=77,np:=7,own:=at1 318 (true) (at1 264 (true) (fun _=>false)),plan:=at1 4 (some (ln [1,3,5,7,9,10,13])) (at1 6 (some (ln [1,3,5,7,9,10,13])) (at1 8 (some (ln [1,3,5,7,9,10])) (at1 9 (some (ln [1,3,5,7,9,10])) (at1 16 (some (ln [1,3,5,7,9,10,13])) (at1 20 (some (ln [1,3,5,7,9,10])) (fun _=>none)))))),hints:=at1 0 ([.renewI 5 0]) (fun _=>[]),out:=true,lend:=at1 293 (true) (fun _=>false)}
noncomputable def bwFol:Code:=bdy Tryz.f318
abbrev ofwFol:=@ofC Tryz.prog gwFol 318 Tryz.f318 bwFol Tryz.func318 zk zk zk zk
noncomputable def gwStart:Ctx:={N:=15,np:=4,own:=at1 318 (true) (fun _=>false),out:=true}
noncomputable def bwStart:Code:=bdy Tryz.f263
abbrev ofwStart:=@ofC Tryz.prog gwStart 263 Tryz.f263 bwStart Tryz.func263 zk zk zk zk
noncomputable def gwGrp:Ctx:={N:=40,own:=at1 263 (true) (at1 262 (true) (fun _=>false)),hints:=at1 2 ([.virtB 8 0 2]) (fun _=>[])}
noncomputable def bwGrp:Code:=bdy Tryz.f193
abbrev ofwGrp:=@ofC Tryz.prog gwGrp 193 Tryz.f193 bwGrp Tryz.func193 zk zk zk zk
noncomputable def gwS1:Ctx:={N:=8,np:=2,out:=true}
noncomputable def bwS1:Code:=bdy Tryz.f266
abbrev ofwS1:=@ofC Tryz.prog gwS1 266 Tryz.f266 bwS1 Tryz.func266 zk zk zk zk
noncomputable def gwFos:Ctx:={N:=77,np:=5,own:=at1 318 (true) (at1 266 (true) (fun _=>false)),plan:=at1 4 (some (ln [1,3,5,7,9,10,13])) (at1 6 (some (ln [1,3,5,7,9,10,13])) (at1 8 (some (ln [1,3,5,7,9,10])) (at1 9 (some (ln [1,3,5,7,9,10])) (at1 16 (some (ln [1,3,5,7,9,10,13])) (at1 20 (some (ln [1,3,5,7,9,10])) (fun _=>none)))))),hints:=at1 0 ([.renewI 3 0]) (fun _=>[]),out:=true,lend:=at1 293 (true) (fun _=>false)}
noncomputable def bwFos:Code:=bdy Tryz.f318
abbrev ofwFos:=@ofC Tryz.prog gwFos 318 Tryz.f318 bwFos Tryz.func318 zk zk zk zk
noncomputable def gwStS:Ctx:={N:=15,np:=2,own:=at1 318 (true) (fun _=>false),out:=true}
noncomputable def bwStS:Code:=bdy Tryz.f263
abbrev ofwStS:=@ofC Tryz.prog gwStS 263 Tryz.f263 bwStS Tryz.func263 zk zk zk zk
noncomputable def gwSvc:Ctx:={N:=64,own:=at1 263 (true) (fun _=>false),plan:=at1 14 (some (.one 1 true (.alt 0 (ln [4,6,9,11,13,15,17]) (.alt 2 (ln [0,6,9,11,13,15,17]) (.stop))))) (fun _=>none),hints:=at1 4 ([.virtB 6 0 7]) (at1 8 ([.freezeB 6,.asL 8]) (fun _=>[]))}
noncomputable def bwSvc:Code:=bdy Tryz.f194
abbrev ofwSvc:=@ofC Tryz.prog gwSvc 194 Tryz.f194 bwSvc Tryz.func194 zk zk zk zk
def nmLB(b:UInt8):Bool:=Nat.ble 97 b.toNat&&Nat.ble b.toNat 122
def nmCB(b:UInt8):Bool:=nmLB b||(Nat.ble 48 b.toNat&&Nat.ble b.toNat 57)||Nat.beq b.toNat 45||Nat.beq b.toNat 95
def nmChk(l:List UInt8):Bool:=match l with
 |[]=>false
 |a::r=>nmLB a&&(r.all nmCB&&(Nat.ble r.length 23&& !(l==[97,110,121])))
theorem nmLB_spec{b:UInt8}(h:nmLB b=true):nmL (b.toNat:Int):=by
 simp only[nmLB,Bool.and_eq_true]at h
 have h1:=Nat.le_of_ble_eq_true h.1;have h2:=Nat.le_of_ble_eq_true h.2
 unfold nmL;omega
theorem nmCB_spec{b:UInt8}(h:nmCB b=true):nmC (b.toNat:Int):=by
 simp only[nmCB,Bool.or_eq_true,Bool.and_eq_true]at h
 unfold nmC
 rcases h with((h|⟨h1,h2⟩)|h)|h
 ·have:=nmLB_spec h;unfold nmL at this;omega
 ·have h1:=Nat.le_of_ble_eq_true h1;have h2:=Nat.le_of_ble_eq_true h2;omega
 ·have:=Nat.eq_of_beq_eq_true h;omega
 ·have:=Nat.eq_of_beq_eq_true h;omega
theorem nameOk_lit(l:List UInt8)(h:nmChk l=true):nameOk ⟨⟨l⟩⟩:=by
 cases l with
 |nil=>cases h
 |cons a r=>
  simp only[nmChk,Bool.and_eq_true,List.all_eq_true,Bool.not_eq_true']at h
  obtain⟨h1,h2,h3,h4⟩:=h
  have h3:=Nat.le_of_ble_eq_true h3
  have hget:∀(i:Nat) b,(⟨⟨a::r⟩⟩:ByteArray)[i]? =some b->(a::r)[i]? =some b:=by
   intro i b hb
   by_cases h:i<(⟨⟨a::r⟩⟩:ByteArray).size
   ·rw[getElem?_pos _ i h]at hb
    have h':i<(a::r).length:=h
    rw[List.getElem?_eq_getElem h']
    exact hb
   ·rw[getElem?_neg _ i h]at hb;cases hb
  refine⟨?_,?_,?_,fun b hb=>?_,fun i b hb=>?_⟩
  ·rw[ByteArray.toList_eq,ByteArray.toList_eq];rfl
  ·show(((a::r).length:Nat):Int)<=24
   simp;omega
  ·rw[ByteArray.toList_eq,ByteArray.toList_eq]
   exact h4
  ·have:=hget 0 b hb
   simp at this;subst this
   exact nmLB_spec h1
  ·have:=hget i b hb
   cases i with
   |zero=>simp at this;subst this;exact nmCB_spec (by simp[nmCB,h1])
   |succ i=>exact nmCB_spec (h2 b (List.mem_of_getElem? (by simpa using this)))
structure GPe (n i:Nat) (e:Ed):Prop where
 name:e.name=enL.getD i default
 d0:0<=e.dev
 d1:e.dev<n
 zone:e.zone∈zoL
 pf:(e.pl=false/\e.pf=subL.getD i noPf)\/(e.pl=true/\e.pf.addr=0/\e.pf.bits∈[24,23,25,22,26,32,30])
structure GPla (t:Tp):Prop where
 d1:1<=t.devs.length
 d6:t.devs.length<=6
 dv:∀(i:Nat) d,t.devs[i]? =some d->GDv i d
 l9:t.links.length<=8
 lk:∀l,l∈t.links->GLk t.devs.length l
 e5:t.edges.length<=5
 ed:∀(i:Nat) e,t.edges[i]? =some e->GPe t.devs.length i e
 pools:t.pools=[pool1]\/t.pools=[pool2]\/t.pools=[pool1,pool2]
 tol:t.tol∈[0,1,0,1,2]
theorem sEq_data(a b:ByteArray):sEq a b=(a.data.toList==b.data.toList):=by rw[sEq,ByteArray.toList_eq,ByteArray.toList_eq]
theorem nameOk_data{s:ByteArray}(h:nmChk s.data.toList=true):nameOk s:=by
 obtain⟨⟨l⟩⟩:=s
 exact nameOk_lit l h
theorem rn_ok{i:Nat}(h:i<6):nameOk (rnL.getD i default):=nameOk_data (by
 have:∀i:Fin 6,nmChk (rnL.getD i.val default).data.toList=true:=by decide
 exact this ⟨i,h⟩)
theorem rn_ne{i j:Nat}(h:i<6)(hj:j<i):sEq (rnL.getD j default) (rnL.getD i default)=false:=by
 have:∀i j:Fin 6,j.val<i.val->((rnL.getD j.val default).data.toList==(rnL.getD i.val default).data.toList)=false:=by decide
 rw[sEq_data];exact this ⟨i,h⟩ ⟨j,by omega⟩ hj
theorem en_ok{i:Nat}(h:i<5):nameOk (enL.getD i default):=nameOk_data (by
 have:∀i:Fin 5,nmChk (enL.getD i.val default).data.toList=true:=by decide
 exact this ⟨i,h⟩)
theorem en_ne{i j:Nat}(h:i<5)(hj:j<i):sEq (enL.getD j default) (enL.getD i default)=false:=by
 have:∀i j:Fin 5,j.val<i.val->((enL.getD j.val default).data.toList==(enL.getD i.val default).data.toList)=false:=by decide
 rw[sEq_data];exact this ⟨i,h⟩ ⟨j,by omega⟩ hj
theorem sEq_refl(a:ByteArray):sEq a a=true:=by rw[sEq_data];simp
theorem zo_ok{s:ByteArray}(h:s∈zoL):nameOk s:=nameOk_data (by
 have:∀s,s∈zoL->nmChk s.data.toList=true:=by
  intro s hs
  simp only[zoL,List.mem_cons,List.not_mem_nil,or_false]at hs
  rcases hs with rfl|rfl|rfl<;>decide
 exact this s h)
theorem cl_ok{s:ByteArray}(h:s∈clL):sEq s ⟨#[]⟩=true\/nameOk s:=by
 simp only[clL,List.mem_cons,List.not_mem_nil,or_false]at h
 rcases h with rfl|rfl|rfl
 ·exact .inl (sEq_refl _)
 ·exact .inr (nameOk_data zd)
 ·exact .inr (nameOk_data zd)
theorem sub_ok{i:Nat}(h:i<5):(subL.getD i noPf).okP/\1<=(subL.getD i noPf).bits:=by
 have:∀i:Fin 5,(subL.getD i.val noPf).okP/\1<=(subL.getD i.val noPf).bits:=by decide
 exact this ⟨i,h⟩
theorem sub_apart{i j:Nat}(h:i<5)(hj:j<i):(subL.getD i noPf).meet (subL.getD j noPf)=false:=by
 have:∀i j:Fin 5,j.val<i.val->(subL.getD i.val noPf).meet (subL.getD j.val noPf)=false:=by decide
 exact this ⟨i,h⟩ ⟨j,by omega⟩ hj
theorem plan_bits{b:Int}(h:b∈[(24:Int),23,25,22,26,32,30]):22<=b/\b<=32:=by
 simp only[List.mem_cons,List.not_mem_nil,or_false]at h
 omega
theorem topOk_pla{t:Tp}(g:GPla t):TopOk t:=by
 have hd6:=g.d6;have he5:=g.e5;have hl9:=g.l9
 have htol:=g.tol
 simp only[List.mem_cons,List.not_mem_nil,or_false]at htol
 refine⟨g.d1,by omega,by omega,by omega,by rcases g.pools with h|h|h<;>rw[h]<;>decide,by omega,by omega,fun i d hi=>?_,fun i l hi=>?_,fun i e hi=>?_,fun i e hi j o hj ho=>?_,fun i p hi=>?_⟩
 ·have hlt:=(List.getElem?_eq_some_iff.1 hi).1
  obtain⟨h1,h2,h3⟩:=g.dv i d hi
  simp only[List.mem_cons,List.not_mem_nil,or_false]at h2
  refine⟨⟨by rw[h1];exact rn_ok zo,by omega,by omega,cl_ok h3⟩,?_⟩
  refine firstIx_at hi (sEq_refl _) fun j y hj hy=>?_
  rw[(g.dv j y hy).name,h1]
  exact rn_ne zo hj
 ·obtain⟨h1,h2,h3,h4⟩:=g.lk l (List.mem_of_getElem? hi)
  simp only[List.mem_cons,List.not_mem_nil,or_false]at h4
  exact⟨h1,h2,h3,by omega,by omega⟩
 ·have hlt:=(List.getElem?_eq_some_iff.1 hi).1
  obtain⟨h1,h2,h3,h4,h5⟩:=g.ed i e hi
  refine⟨⟨by rw[h1];exact en_ok zo,zo_ok h4,h2,h3,?_⟩,?_⟩
  ·rcases h5 with⟨p1,p2⟩|⟨p1,p2,p3⟩
   ·have:=sub_ok (i:=i) zo
    rw[p2];exact⟨this.2,this.1,.inl p1⟩
   ·have:=plan_bits p3
    refine⟨by omega,⟨by omega,by omega,by rw[p2];exact Int.zero_emod _⟩,.inr p2⟩
  ·refine firstIx_at hi (sEq_refl _) fun j y hj hy=>?_
   rw[(g.ed j y hy).name,h1]
   exact en_ne zo hj
 ·rintro⟨q1,q2,q3⟩
  have hlt:=(List.getElem?_eq_some_iff.1 hi).1
  rcases(g.ed i e hi).pf with⟨_,p2⟩|⟨p1,_⟩
  ·rcases(g.ed j o ho).pf with⟨_,r2⟩|⟨r1,_⟩
   ·rw[p2,r2,sub_apart zo hj]at q3;cases q3
   ·rw[r1]at q2;cases q2
  ·rw[p1]at q1;cases q1
 ·rcases g.pools with h|h|h<;>rw[h]at hi⊢
  ·match i,hi with
   |0,hi=>simp at hi;subst hi;exact⟨by decide,fun j q hj=>absurd hj (Nat.not_lt_zero _)⟩
   |i+1,hi=>simp at hi
  ·match i,hi with
   |0,hi=>simp at hi;subst hi;exact⟨by decide,fun j q hj=>absurd hj (Nat.not_lt_zero _)⟩
   |i+1,hi=>simp at hi
  ·match i,hi with
   |0,hi=>simp at hi;subst hi;exact⟨by decide,fun j q hj=>absurd hj (Nat.not_lt_zero _)⟩
   |1,hi=>
    simp at hi;subst hi
    refine⟨by decide,fun j q hj hq=>?_⟩
    have:j=0:=by omega
    subst this
    simp at hq;subst hq
    decide
   |i+2,hi=>simp at hi
theorem sEq_eq{a b:ByteArray}(h:sEq a b=true):a=b:=by
 rw[sEq_data]at h
 have h:=of_decide_eq_true (by simpa using h:decide (a.data.toList=b.data.toList)=true)
 exact ByteArray.ext (Array.ext' h)
def findD(l:List Df)(s:ByteArray):Option Nat:=l.findIdx? fun d=>sEq d.name s
theorem findD_some{l:List Df}{s:ByteArray}{n:Nat}(h:findD l s=some n):∃d,l[n]? =some d/\d.name=s/\n<l.length:=by
 unfold findD at h
 rw[List.findIdx?_eq_some_iff_getElem]at h
 obtain⟨h1,h2,_⟩:=h
 exact⟨_,List.getElem?_eq_getElem h1,sEq_eq h2,h1⟩
theorem firstIx_find(l:List Df)(s:ByteArray):firstIx (fun d=>sEq d.name s) l=match findD l s with
  |some n=>(n:Int)
  |none=> -1:=rfl
section
variable {S:Type} (v:It->S->Int×S)
def folI(rec:ByteArray->List Nat->S->Int×List Nat×S):List It->List Nat->S->Int×List Nat×S
 |[],d,s=>(0,d,s)
 |x::r,d,s=>
  let q:=if x.kind=3 then rec x.name d s else((v x s).1,d,(v x s).2)
  if q.1=0 then folI rec r q.2.1 q.2.2 else q
def fol(l:List Df):Nat->List Nat->ByteArray->List Nat->S->Int×List Nat×S
 |0,_,_,d,s=>(8,d,s)
 |k+1,p,nm,d,s=>match findD l nm with
  |none=>(5,d,s)
  |some n=>if n∈p then(8,d,s)else if n∈d then(0,d,s)else
   let q:=folI v (fol l k (p++[n])) (((l[n]?).map (·.items)).getD []) d s
   if q.1=0 then(0,q.2.1++[n],q.2.2)else q
theorem folI_nil(rec:ByteArray->List Nat->S->Int×List Nat×S)(d:List Nat)(s:S):folI v rec [] d s=(0,d,s):=rfl
theorem folI_cons(rec:ByteArray->List Nat->S->Int×List Nat×S)(x:It)(r:List It)(d:List Nat)(s:S):folI v rec (x::r) d s=
  if(if x.kind=3 then rec x.name d s else((v x s).1,d,(v x s).2)).1=0 then folI v rec r (if x.kind=3 then rec x.name d s else((v x s).1,d,(v x s).2)).2.1 (if x.kind=3 then rec x.name d s else((v x s).1,d,(v x s).2)).2.2
  else(if x.kind=3 then rec x.name d s else((v x s).1,d,(v x s).2)):=rfl
end
open Classical in
noncomputable def nameM(l:List Df)(p:List Nat):Value->Option AV:=fun k=>if ∃n d,n∈p/\l[n]? =some d/\k=.string d.name then some (.sb true)else none
def Firsts(l:List Df)(p:List Nat):Prop:=∀n,n∈p->∀d,l[n]? =some d->findD l d.name=some n
theorem Firsts.nil{l:List Df}:Firsts l []:=fun n h=>by cases h
theorem Firsts.snoc{l:List Df}{p:List Nat}{s:ByteArray}{n:Nat}(h:Firsts l p)(hn:findD l s=some n):Firsts l (p++[n]):=fun m hm d hd=>by
 rcases List.mem_append.1 hm with hm|hm
 ·exact h m hm d hd
 ·rw[List.mem_singleton.1 hm]at hd⊢
  obtain⟨d',h1,h2,_⟩:=findD_some hn
  rw[hd]at h1;cases h1
  rw[h2];exact hn
theorem nameM_in{l:List Df}{p:List Nat}{s:ByteArray}{n:Nat}(hn:findD l s=some n)(h:n∈p):nameM l p (.string s)=some (.sb true):=by
 obtain⟨d,h1,h2,_⟩:=findD_some hn
 rw[nameM,if_pos ⟨n,d,h,h1,by rw[h2]⟩]
theorem nameM_out{l:List Df}{p:List Nat}{s:ByteArray}{n:Nat}(hf:Firsts l p)(hn:findD l s=some n)(h:n∉p):nameM l p (.string s)=none:=by
 rw[nameM,if_neg]
 rintro⟨m,d,h1,h2,h3⟩
 have e:s=d.name:=by simpa using h3
 have:=hf m h1 d h2
 rw[<-e,hn]at this
 cases this
 exact h h1
theorem nameM_nil(l:List Df):(fun _=>none)=nameM l []:=by
 funext k
 rw[nameM,if_neg]
 rintro⟨n,d,h,_⟩;cases h
theorem updM_name{l:List Df}{p:List Nat}{s:ByteArray}{n:Nat}(hn:findD l s=some n):nameM l (p++[n])=updM (nameM l p) (.string s) (.sb true):=by
 obtain⟨d,h1,h2,_⟩:=findD_some hn
 funext k
 unfold updM
 split
 ·rename_i e
  rw[e,nameM_in hn zx]
 ·rename_i e
  unfold nameM
  have:(∃m d,m∈p++[n]/\l[m]? =some d/\k=.string d.name)↔∃m d,m∈p/\l[m]? =some d/\k=.string d.name:=by
   constructor
   ·rintro⟨m,d',g1,g2,g3⟩
    rcases List.mem_append.1 g1 with g1|g1
    ·exact⟨m,d',g1,g2,g3⟩
    ·rw[List.mem_singleton.1 g1,h1]at g2;cases g2
     exact absurd (g3.trans (by rw[h2])) e
   ·rintro⟨m,d',g1,g2,g3⟩
    exact⟨m,d',List.mem_append_left _ g1,g2,g3⟩
  by_cases hx:∃m d,m∈p/\l[m]? =some d/\k=.string d.name
  ·rw[if_pos hx,if_pos (this.2 hx)]
  ·rw[if_neg hx,if_neg (fun h=>hx (this.1 h))]
theorem delM_name{l:List Df}{p:List Nat}{s:ByteArray}{n:Nat}(hf:Firsts l p)(hn:findD l s=some n)(h:n∉p):nameM l p=delM (nameM l (p++[n])) (.string s):=by
 funext k
 unfold delM
 split
 ·rename_i e
  rw[e,nameM_out hf hn h]
 ·rename_i e
  rw[updM_name hn,updM,if_neg e]
structure Fine (l:List Df) (p d:List Nat):Prop where
 pn:p.Nodup
 dn:d.Nodup
 pf:Firsts l p
 df:Firsts l d
 pl:∀n,n∈p->n<l.length
 dl:∀n,n∈d->n<l.length
 dj:∀n,n∈p->n∉d
theorem Fine.push{l:List Df}{p d:List Nat}{s:ByteArray}{n:Nat}(h:Fine l p d)(hn:findD l s=some n)(hp:n∉p)(hd:n∉d):Fine l (p++[n]) d:=
 ⟨List.nodup_append.2 ⟨h.pn,by simp,fun a ha b hb e=>by rw[List.mem_singleton.1 hb]at e;exact hp (e▸ha)⟩,h.dn,h.pf.snoc hn,h.df,fun m hm=>by
  rcases List.mem_append.1 hm with hm|hm
  ·exact h.pl m hm
  ·rw[List.mem_singleton.1 hm];exact(findD_some hn).choose_spec.2.2,h.dl,fun m hm=>by
  rcases List.mem_append.1 hm with hm|hm
  ·exact h.dj m hm
  ·rw[List.mem_singleton.1 hm];exact hd⟩
theorem Fine.pop{l:List Df}{p d:List Nat}{s:ByteArray}{n:Nat}(h:Fine l (p++[n]) d)(hn:findD l s=some n):Fine l p (d++[n]):=by
 have hnd:n∉d:=h.dj n zx
 have hp:=List.nodup_append.1 h.pn
 exact⟨hp.1,List.nodup_append.2 ⟨h.dn,by simp,fun a ha b hb e=>by rw[List.mem_singleton.1 hb]at e;exact hnd (e▸ha)⟩,fun m hm=>h.pf m (List.mem_append_left _ hm),h.df.snoc hn,
  fun m hm=>h.pl m (List.mem_append_left _ hm),fun m hm=>by
   rcases List.mem_append.1 hm with hm|hm
   ·exact h.dl m hm
   ·rw[List.mem_singleton.1 hm];exact h.pl n zx,fun m hm hmd=>by
   rcases List.mem_append.1 hmd with hmd|hmd
   ·exact h.dj m (List.mem_append_left _ hm) hmd
   ·exact hp.2.2 m hm n zx (List.mem_singleton.1 hmd)⟩
theorem nodupLe{l:List Nat}{m:Nat}(h:l.Nodup)(hb:∀x,x∈l->x<m):l.length<=m:=by
 have:=nodup_sub (l:=l.map fun n:Nat=>(n:Int)) (m:=(List.range m).map fun n:Nat=>(n:Int)) (by
  unfold List.Nodup at*
  rw[List.pairwise_map]
  exact h.imp fun hab e=>hab zo) (fun x hx=>by
  obtain⟨n,hn,rfl⟩:=List.mem_map.1 hx
  exact List.mem_map.2 ⟨n,List.mem_range.2 (hb n hn),rfl⟩)
 simpa using this
theorem Fine.small{l:List Df}{p d:List Nat}(h:Fine l p d):d.length+p.length<=l.length:=by
 have h1:(d++p).Nodup:=List.nodup_append.2 ⟨h.dn,h.pn,fun a ha b hb e=>h.dj b hb (e▸ha)⟩
 have h2:∀n,n∈d++p->n<l.length:=fun n hn=>by
  rcases List.mem_append.1 hn with hn|hn
  ·exact h.dl n hn
  ·exact h.pl n hn
 have h3:=nodupLe h1 h2
 rw[List.length_append]at h3
 exact h3
section
variable {S:Type} (v:It->S->Int×S) (sz:S->Nat) (hv:∀x s,(v x s).1=0->sz (v x s).2<=sz s+1000)
structure Fed (l:List Df) (p d:List Nat) (s:S) (d':List Nat) (s':S) (c:Nat):Prop where
 fine:Fine l p d'
 le:d.length<=d'.length
 size:sz s'+1000000*d.length<=sz s+1000000*d'.length+c
include hv
theorem folI_fed{l:List Df}{p:List Nat}{rec:ByteArray->List Nat->S->Int×List Nat×S}(hrec:∀nm d s,Fine l p d->(rec nm d s).1=0->Fed sz l p d s (rec nm d s).2.1 (rec nm d s).2.2 0):
  ∀(its:List It) (d:List Nat) (s:S),Fine l p d->(folI v rec its d s).1=0->Fed sz l p d s (folI v rec its d s).2.1 (folI v rec its d s).2.2 (1000*its.length)
 |[],d,s,hf,_=>⟨hf,Nat.le_refl _,by simp[folI]⟩
 |x::r,d,s,hf,h=>by
  rw[folI_cons]at h⊢
  have hq:(if x.kind=3 then rec x.name d s else((v x s).1,d,(v x s).2)).1=0->Fed sz l p d s (if x.kind=3 then rec x.name d s else((v x s).1,d,(v x s).2)).2.1 (if x.kind=3 then rec x.name d s else((v x s).1,d,(v x s).2)).2.2 1000:=by
   by_cases hk:x.kind=3
   ·rw[if_pos hk]
    intro h0
    have:=hrec x.name d s hf h0
    exact⟨this.fine,this.le,by have:=this.size;omega⟩
   ·rw[if_neg hk]
    intro h0
    exact⟨hf,Nat.le_refl _,by have:=hv x s h0;simp only;omega⟩
  generalize (if x.kind=3 then rec x.name d s else((v x s).1,d,(v x s).2))=q at*
  by_cases h0:q.1=0
  ·rw[if_pos h0]at h⊢
   have hq:=hq h0
   have h2:=folI_fed hrec r q.2.1 q.2.2 hq.fine h
   exact⟨h2.fine,Nat.le_trans hq.le h2.le,by have:=hq.size;have:=h2.size;rw[List.length_cons];omega⟩
  ·rw[if_neg h0]at h;exact absurd h h0
theorem fol_fed(l:List Df)(hit:∀d,d∈l->d.items.length<=999):∀(k:Nat) (p:List Nat) (nm:ByteArray) (d:List Nat) (s:S),Fine l p d->(fol v l k p nm d s).1=0->
  Fed sz l p d s (fol v l k p nm d s).2.1 (fol v l k p nm d s).2.2 0
 |0,p,nm,d,s,hf,h=>by simp[fol]at h
 |k+1,p,nm,d,s,hf,h=>by
  unfold fol at h⊢
  cases hn:findD l nm with
  |none=>simp[hn]at h
  |some n=>
   simp only[hn]at h⊢
   split at h
   ·simp at h
   rename_i hp
   rw[if_neg hp]
   split at h
   ·rename_i hd
    rw[if_pos hd]
    exact⟨hf,Nat.le_refl _,by simp⟩
   rename_i hd
   rw[if_neg hd]
   obtain⟨df,hdf,_⟩:=findD_some hn
   simp only[hdf,Option.map_some,Option.getD_some]at h⊢
   have hpush:=hf.push hn hp hd
   split at h
   ·rename_i h0
    rw[if_pos h0]
    have h1:=folI_fed v sz hv (fun nm d s hf h=>fol_fed l hit k (p++[n]) nm d s hf h) df.items d s hpush h0
    have hlen:=hit df (List.mem_of_getElem? hdf)
    exact⟨h1.fine.pop hn,by rw[List.length_append];have:=h1.le;omega,by have:=h1.size;simp only[List.length_append,List.length_singleton];omega⟩
   ·rename_i h0;exact absurd h h0
end
def IsLen(x n:Nat):Prop:=x<2^n/\(n=0\/2^(n-1)<=x)
instance (x n:Nat):Decidable (IsLen x n):=by unfold IsLen;infer_instance
theorem isLen_shift{x n s:Nat}(h:IsLen (x/2^s) n)(hx:2^s<=x):IsLen x (n+s):=by
 obtain⟨h1,h2⟩:=h
 have hp:=Nat.two_pow_pos s
 have hn:n≠0:=by
  rintro rfl
  have:=(Nat.div_lt_iff_lt_mul hp).1 h1
  omega
 refine⟨by rw[Nat.pow_add];exact(Nat.div_lt_iff_lt_mul hp).1 h1,.inr ?_⟩
 rw[show n+s-1=(n-1)+s by omega,Nat.pow_add]
 exact(Nat.le_div_iff_mul_le hp).1 (h2.resolve_left hn)
theorem wr_u8{e:Int}{K:Int->Prop}(j:Nat)(h:e=j)(hj:j<256)(hk:K j):Wr .u8 e K:=by
 subst h
 refine Wr.intro ?_ hk
 simp only[IntKind.wrap,IntKind.signed,IntKind.bits];simp;omega
def chkTab(s:ByteArray):Bool:=Nat.beq s.data.size 256&&(List.range 256).all fun j=>match s.data[j]? with
 |some b=>decide (IsLen j b.toNat)
 |none=>false
theorem tab_in{s:ByteArray}{j:Nat}{K:UInt8->Prop}(hc:chkTab s=true)(hj:j<256)(hk:∀b:UInt8,IsLen j b.toNat->b.toNat<256->K b):In (j:Int) s.size fun j'=>∃b,s[j']? =some b/\K b:=by
 simp only[chkTab,Bool.and_eq_true,List.all_eq_true,List.mem_range]at hc
 obtain⟨h1,h2⟩:=hc
 have h1:s.size=256:=Nat.eq_of_beq_eq_true h1
 have hlt:j<s.size:=by omega
 refine In.intro j rfl hlt ⟨s[j],by simp[hlt],hk _ ?_ (UInt8.toNat_lt _)⟩
 have:=h2 j hj
 have e:s.data[j]? =some s[j]:=by rw[Array.getElem?_eq_getElem (show j<s.data.size from hlt)];rfl
 rw[e]at this
 simpa using this
end Go.Proofs.YtbdikofefjljoaaGreatDoor
