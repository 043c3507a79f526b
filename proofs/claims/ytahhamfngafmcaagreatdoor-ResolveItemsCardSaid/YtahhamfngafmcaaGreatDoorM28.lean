/- Definitions that need themselves are refused: the statement ResolveCyclesCardSaid holds, for every input, without a condition of ours (its card ties the package-level variables to the program's text). -/
import Derived.Test.YtahhamfngafmcaaGreatDoorM27
set_option linter.unusedVariables false
set_option linter.unusedSimpArgs false
set_option maxRecDepth 100000
set_option maxHeartbeats 4000000
namespace Go.Proofs.YtahhamfngafmcaaGreatDoor
open Go Go.Vm
theorem setBlen{s:List Bx}(h:setB s=true):s.length<1000000000:=by have:=(setB_pset h).len;omega
theorem comp_edges{t:Tp}(hc:compB t=true):t.edges.length<=12:=(compB_iff.1 hc).1.e1
theorem crGrp(t:Tp)(hc:compB t=true)(i:Nt)(hb:Bnd i)(nm:ByteArray){K:KT}(hK:K (.tup [encRs (grpP t i nm).1,.v (.int .i64 (grpP t i nm).2)]) []):ACall Tryz.prog 46 [encT t,encNt i,.v (.string nm)] [] K:=by
 have h12:=comp_edges hc
 have hits:=hb.its
 refine cwGrp t (by omega) i hb.g hb.gi nm (fun h=>?_) (fun h=>?_) fun h c hc hh hl=>?_
 ·have:=grpE_len (l:=i.grps) h12 h;omega
 ·rw[grpP,if_neg h]at hK;exact hK
 ·rw[grpP,if_pos h,canO_eq hc hh]at hK;exact hK
theorem grpP_len{t:Tp}(hc:compB t=true){i:Nt}(hb:Bnd i)(nm:ByteArray):(grpP t i nm).1.length<=860:=by
 have h12:=comp_edges hc
 have hits:=hb.its
 unfold grpP
 split
 ·rename_i h
  have:=grpE_len (l:=i.grps) h12 h
  have:=canO_len (grpE t i.grps nm).2
  simp only;omega
 ·exact Nat.zero_le _
theorem cwStS(l:List Df)(hl:l.length<=999)(hit:∀d,d∈l->d.items.length<=999)(nm:ByteArray){K:KT}
  (hK:K (.v (.int .i64 (svcF l nm).1)) [itO 2 (svcF l nm).2.length,.box [],arI (svcF l nm).2]):
  ACall Tryz.prog 86 [.lst (l.map encDf),.v (.string nm),.fn (.func 93) [] [.op 0 0]] [itO 1 0,.arr 7 []] K:=by
 refine ofwStS rfl rfl ?_
 unfold svcF at hK
 have hc:∀{K:KT},K (.v (.int .i64 (fol visS l (l.length+1) [] nm [] []).1)) [fsO l,.map (nameM l []),.map (nameM l (fol visS l (l.length+1) [] nm [] []).2.1),itO 5 (fol visS l (l.length+1) [] nm [] []).2.2.length,.box [],arI (fol visS l (l.length+1) [] nm [] []).2.2]->
   ACall Tryz.prog 144 [.op 0 0,.v (.string nm)] [fsO l,.map (fun _=>none),.map (fun _=>none),itO 4 0,.arr 7 []] K:=fun {K} h=>by
  rw[nameM_nil l]
  exact cwFos l hl hit (l.length+1) [] nm [] [] (fine_nil l) (by simp) (by simp) h
 (repeat' ((conv=>whnf);first|(with_reducible refine hc ?_)|refine zG ?_|apply zA|(apply zI;intro h)|exact zT));(all_goals conv=>whnf)
 exact hK
theorem svcF_len{l:List Df}{nm:ByteArray}(h:(svcF l nm).1=0):(svcF l nm).2.length<=itsN l:=by
 unfold svcF at h⊢
 have:=fol_all visS List.length 1 (fun x s _=>by simp[visS]) l nm [] h
 simp only[List.length_nil]at this
 simp only;omega
theorem svcGo_drop{x:It}{r:List It}{s:List Bx}:svcGo (x::r) s=if(combP anB initS [hdrX x]).2≠0 then([],(combP anB initS [hdrX x]).2)else if(combP orB s (combP anB initS [hdrX x]).1).2≠0 then([],(combP orB s (combP anB initS [hdrX x]).1).2)else svcGo r (combP orB s (combP anB initS [hdrX x]).1).1:=rfl
theorem crSvc(i:Nt)(hb:Bnd i)(nm:ByteArray){K:KT}(hK:K (.tup [encXs (svcP i nm).1,.v (.int .i64 (svcP i nm).2)]) []):ACall Tryz.prog 50 [encNt i,.v (.string nm)] [] K:=by
 refine ACall.weak (ofwSvc rfl rfl ?_)
 unfold svcP at hK
 by_cases hnm:sEq nm ⟨#[]⟩=true
 ·rw[if_pos hnm]at hK
  have hnm2:(nm.toList==(⟨#[]⟩:ByteArray).toList)=true:=hnm
  (repeat' ((conv=>whnf);first|(with_reducible refine cxInit ?_)|refine zG ?_|apply zA|(apply zI;intro h)|exact zT));(all_goals conv=>whnf)
  exact⟨_,Weak.refl,hK⟩
 ·rw[if_neg hnm]at hK
  have hnm2:(nm.toList==(⟨#[]⟩:ByteArray).toList)=false:=by simpa[sEq]using hnm
  have hc:=fun {K} h=>@cwStS i.svcs hb.s hb.si nm K h
  have hlen:=svcF_len (l:=i.svcs) (nm:=nm)
  have hsn:=hb.sits
  generalize svcF i.svcs nm=q at*
  obtain⟨qe,its⟩:=q
  simp only at hK hc hlen
  (repeat' ((conv=>whnf);first|(with_reducible refine hc ?_)|refine zG ?_|apply zA|(apply zI;intro h)|exact zT));(all_goals conv=>whnf)
  ·rw[if_neg (by omega)]at hK
   have hlen:=hlen h
   refine Lp.intro (Nat×List Bx) (fun g=>⟨4,[],[(8,encXs g.2),(25,.lst (its.map encIt)),(26,.v (.int .i64 (its.map encIt).length)),(27,.v (.int .i64 g.1))]⟩) (fun g=>g.1<=its.length/\setB g.2=true/\svcGo its []=svcGo (its.drop g.1) g.2) (fun g=>its.length-g.1) (0,[]) ⟨Nat.zero_le _,setB_nil,by rw[List.drop_zero]⟩ ?_ ?_
   ·(exact leA)
   rintro⟨k,s⟩ ⟨hk,hs,heq⟩
   simp only at hk hs heq⊢
   have hsl:=setBlen hs
   rcases Nat.lt_or_ge k its.length with hkl|hkl
   ·obtain⟨x,hx⟩:=gex hkl
    have hd:its.drop k=x::its.drop (k+1):=by
     rw[List.getElem?_eq_getElem hkl]at hx
     rw[<-Option.some.inj hx,<-List.drop_eq_getElem_cons hkl]
    rw[hd,svcGo_drop]at heq
    have hq:∀{K:KT},K (.tup [encXs (combP anB initS [hdrX x]).1,.v (.int .i64 (combP anB initS [hdrX x]).2)]) []->ACall Tryz.prog 95 [encXs initS,.lst [.agg [.v (.int .u32 fullB.r0.lo),.v (.int .u32 fullB.r0.hi),.v (.int .u32 fullB.r1.lo),.v (.int .u32 fullB.r1.hi),.v (.int .u32 (wu x.proto)),.v (.int .u32 (wu x.proto)),.v (.int .u32 fullB.r3.lo),.v (.int .u32 fullB.r3.hi),.v (.int .u32 x.ports.lo),.v (.int .u32 x.ports.hi)]]] [] K:=fun {K} h=>@cxInt initS [hdrX x] (by decide) (by simp) K h
    have hsA:=setB_combP anB initS [hdrX x]
    have hsB:=setB_combP orB s (combP anB initS [hdrX x]).1
    have hu:=fun {K} h=>@cxUn s (combP anB initS [hdrX x]).1 (by omega) (by have:=setBlen hsA;omega) K h
    generalize combP orB s (combP anB initS [hdrX x]).1=B at*
    generalize combP anB initS [hdrX x]=A at*
    obtain⟨As,Ae⟩:=A
    obtain⟨Bs,Be⟩:=B
    simp only at heq hsA hsB hu hq
    (repeat' ((conv=>whnf);first|(with_reducible first|refine in_map hkl ?_|refine ix_map hx ?_|refine cxFull ?_)|(refine in_c (by decide) ?_)|(with_reducible first|refine wr_u32_eq ?_|refine cxInit ?_)|(refine sl_full (by rfl) ?_)|(with_reducible first|refine hq ?_|refine hu ?_)|refine zG ?_|apply zA|(apply zI;intro h)|exact zT));(all_goals conv=>whnf)
    all_goals first
     |(rw[if_neg (fun hn=>hn (by with_reducible assumption)),if_neg (fun hn=>hn (by with_reducible assumption))]at heq
       refine⟨(k+1,Bs),⟨hkl,hsB,heq⟩,by simp only;omega,?_⟩
       simp only[Int.natCast_add,Int.natCast_one]
       (exact leA)
       done)
     |(rw[if_pos h]at heq
       rw[heq]at hK
       exact⟨_,Weak.tup2 Weak.nils Weak.refl,hK⟩)
     |(rw[if_neg (fun hn=>hn (by with_reducible assumption)),if_pos h]at heq
       rw[heq]at hK
       exact⟨_,Weak.tup2 Weak.nils Weak.refl,hK⟩)
   ·rw[List.drop_of_length_le hkl]at heq
    rw[heq]at hK
    (repeat' ((conv=>whnf);first|refine zG ?_|apply zA|(apply zI;intro h)|exact zT));(all_goals conv=>whnf)
    exact⟨_,Weak.refl,hK⟩
  ·rw[if_pos (by assumption)]at hK
   exact⟨_,Weak.tup2 Weak.nils Weak.refl,hK⟩
theorem svcGo_set:∀(its:List It) (s:List Bx),setB s=true->setB (svcGo its s).1=true
 |[],s,h=>h
 |x::r,s,h=>by
  rw[svcGo_drop]
  split
  ·exact setB_nil
  ·split
   ·exact setB_nil
   ·exact svcGo_set r _ (setB_combP ..)
theorem svcP_set(i:Nt)(nm:ByteArray):setB (svcP i nm).1=true:=by
 unfold svcP
 split
 ·exact init_set
 ·split
  ·exact setB_nil
  ·exact svcGo_set _ _ setB_nil
theorem bwB_snoc(a:List Rg)(r:Rg)(b:List Rg):btwB (a++[r]) b=btwB a b++b.map fun s=>btwX r s:=by simp[btwB]
theorem bwB_len(b:List Rg):∀a:List Rg,(btwB a b).length=a.length*b.length
 |[]=>by simp[btwB]
 |r::a=>by
  have:=bwB_len b a
  simp only[btwB,List.flatMap_cons,List.length_append,List.length_map,List.length_cons,Nat.succ_mul]at*
  omega
theorem crBtw(a b:List Rg)(ha:a.length<=860)(hb:b.length<=860){K:KT}(hK:K (.tup [encXs (makeP (btwB a b)).1,.v (.int .i64 (makeP (btwB a b)).2)]) []):ACall Tryz.prog 122 [encRs a,encRs b] [] K:=by
 refine ofrBtw rfl rfl ?_
 (repeat' ((conv=>whnf);first|refine zG ?_|apply zA|(apply zI;intro h)|exact zT));(all_goals conv=>whnf)
 refine Lp.intro Nat (fun i=>⟨1,[(0,.arr 10 ((btwB (a.take i) b).map encX))],[(1,encRs b),(6,.os 0 10 0 (btwB (a.take i) b).length),(12,encRs a),(13,.v (.int .i64 (a.map encR).length)),(14,.v (.int .i64 i))]⟩) (fun i=>i<=a.length) (fun i=>a.length-i) 0 (Nat.zero_le _) ?_ ?_
 ·rw[List.take_zero,show btwB [] b=[]from rfl]
  (exact leA)
 intro i hi
 have hl:=bwB_len b (a.take i)
 have hm:(a.take i).length*b.length<=860*860:=Nat.mul_le_mul (by rw[List.length_take];omega) hb
 rcases Nat.lt_or_ge i a.length with hil|hil
 ·obtain⟨r,hr⟩:=gex hil
  have hs:btwB (a.take (i+1)) b=btwB (a.take i) b++b.map fun s=>btwX r s:=by rw[List.take_add_one,hr];exact bwB_snoc ..
  generalize btwB (a.take i) b=A at*
  (repeat' ((conv=>whnf);first|(with_reducible first|refine in_map hil ?_|refine ix_map hr ?_)|refine zG ?_|apply zA|(apply zI;intro h)|exact zT));(all_goals conv=>whnf)
  refine Lp.intro Nat (fun k=>⟨2,[(0,.arr 10 ((A++(b.take k).map fun s=>btwX r s).map encX)),(1,.box [.v (.int .u32 r.lo),.v (.int .u32 r.hi)])],[(1,encRs b),(6,.os 0 10 0 (A++(b.take k).map fun s=>btwX r s).length),(8,.op 1 0),(12,encRs a),(13,.v (.int .i64 (a.map encR).length)),(14,.v (.int .i64 i)),(18,encRs b),(19,.v (.int .i64 (b.map encR).length)),(20,.v (.int .i64 k))]⟩) (fun k=>k<=b.length) (fun k=>b.length-k) 0 (Nat.zero_le _) ?_ ?_
  ·rw[List.take_zero,List.map_nil,List.append_nil]
   (exact leA)
  intro k hk
  rcases Nat.lt_or_ge k b.length with hkl|hkl
  ·obtain⟨s,hs2⟩:=gex hkl
   have hap:(A++(b.take (k+1)).map fun s=>btwX r s)=(A++(b.take k).map fun s=>btwX r s)++[btwX r s]:=by rw[List.take_add_one,hs2];simp
   have hlen:(A++(b.take k).map fun s=>btwX r s).length<=1000000:=by rw[List.length_append,List.length_map,List.length_take];omega
   generalize hB:(A++(b.take (k+1)).map fun s=>btwX r s)=B at*
   generalize (A++(b.take k).map fun s=>btwX r s)=C at*
   (repeat' ((conv=>whnf);first|(with_reducible first|refine cxFull ?_|refine in_map hkl ?_|refine ix_map hs2 ?_)|(refine in_c (by decide) ?_)|(refine sl_full (by rfl) ?_)|refine zG ?_|apply zA|(apply zI;intro h)|exact zT));(all_goals conv=>whnf)
   all_goals
    refine⟨k+1,hkl,by omega,?_⟩
    rw[hB,hap,List.map_append,List.length_append,Int.natCast_add k,Int.natCast_one]
    (exact leA)
  ·(repeat' ((conv=>whnf);first|refine zG ?_|apply zA|(apply zI;intro h)|exact zT));(all_goals conv=>whnf)
   have hke:k=b.length:=by omega
   rw[hke,List.take_length,<-hs]
   refine⟨i+1,hil,by omega,?_⟩
   rw[Int.natCast_add i,Int.natCast_one]
   (exact leA)
 ·have hie:i=a.length:=by omega
  have hbl:(btwB a b).length<1000000000:=by
   have:=Nat.mul_le_mul ha hb
   rw[bwB_len];omega
  rw[hie,List.take_length]
  have hfull:((btwB a b).map encX).length=(btwB a b).length:=List.length_map ..
  (repeat' ((conv=>whnf);first|(with_reducible first|refine sl_full hfull ?_|refine cxMake (btwB a b) hbl ?_)|refine zG ?_|apply zA|(apply zI;intro h)|exact zT));(all_goals conv=>whnf)
  exact hK
theorem crStm(t:Tp)(hc:compB t=true)(i:Nt)(hb:Bnd i)(s:Sm){K:KT}(hK:K (.tup [encXs (stmP t i s).1,.v (.int .i64 (stmP t i s).2)]) []):ACall Tryz.prog 67 [encT t,encNt i,encSm s] [] K:=by
 refine ACall.weak (ofrStm rfl rfl ?_)
 have hl:=fun nm=>grpP_len hc hb nm
 have hg:=fun(nm:ByteArray) {K:KT} h=>@crGrp t hc i hb nm K h
 unfold stmP at hK
 have l1:=hl s.frm;have l2:=hl s.to;have l4:=hl s.exF;have l5:=hl s.exT
 have g1:=fun {K} h=>@hg s.frm K h
 have g2:=fun {K} h=>@hg s.to K h
 have g4:=fun {K} h=>@hg s.exF K h
 have g5:=fun {K} h=>@hg s.exT K h
 have g3:=fun {K} h=>@crSvc i hb s.svc K h
 have s3:=svcP_set i s.svc
 generalize grpP t i s.frm=F at*
 generalize grpP t i s.to=G at*
 generalize grpP t i s.exF=O at*
 generalize grpP t i s.exT=N at*
 generalize svcP i s.svc=V at*
 obtain⟨Fs,Fe⟩:=F
 obtain⟨Gs,Ge⟩:=G
 obtain⟨Os,Oe⟩:=O
 obtain⟨Ns,Ne⟩:=N
 obtain⟨Vs,Ve⟩:=V
 simp only at l1 l2 l4 l5 g1 g2 g3 g4 g5 s3 hK
 (repeat' ((conv=>whnf);first|(with_reducible first|refine g1 ?_|refine g2 ?_|refine g3 ?_)|refine zG ?_|apply zA|(apply zI;intro h)|exact zT));(all_goals conv=>whnf)
 rotate_left
 ·rw[bindE_ok (x:=(Fs,Fe)) (by with_reducible assumption),bindE_ok (x:=(Gs,Ge)) (by with_reducible assumption),bindE_no (x:=(Vs,Ve)) h]at hK
  exact⟨_,Weak.tup2 Weak.nils Weak.refl,hK⟩
 ·rw[bindE_ok (x:=(Fs,Fe)) (by with_reducible assumption),bindE_no (x:=(Gs,Ge)) h]at hK
  exact⟨_,Weak.tup2 Weak.nils Weak.refl,hK⟩
 ·rw[bindE_no (x:=(Fs,Fe)) h]at hK
  exact⟨_,Weak.tup2 Weak.nils Weak.refl,hK⟩
 rw[bindE_ok (x:=(Fs,Fe)) (by with_reducible assumption),bindE_ok (x:=(Gs,Ge)) (by with_reducible assumption),bindE_ok (x:=(Vs,Ve)) h]at hK
 simp only at hK
 have hvl:=setBlen s3
 have b1:=fun {K} h=>@crBtw Fs Gs l1 l2 K h
 have sB:=setB_makeP (btwB Fs Gs)
 have i1:=fun {K} h=>@cxInt (makeP (btwB Fs Gs)).1 Vs (setBlen sB) hvl K h
 have sC:=setB_combP anB (makeP (btwB Fs Gs)).1 Vs
 have b2:=fun {K} h=>@crBtw Os Ns l4 l5 K h
 have sD:=setB_makeP (btwB Os Ns)
 have i2:=fun {K} h=>@cxSub (combP anB (makeP (btwB Fs Gs)).1 Vs).1 (makeP (btwB Os Ns)).1 (setBlen sC) (setBlen sD) K h
 by_cases hex:s.exc=true
 ·simp only[hex,if_true]at hK
  refine Jn.intro Unit (fun _=>⟨3,[(2,.box [.sb s.permit,.v (.string s.frm),.v (.string s.to),.v (.string s.svc),.sb s.exc,.v (.string s.exF),.v (.string s.exT),.v (.string s.cls),.v (.string s.dur),.v (.int .i64 s.pri)])],[(5,.op 2 0),(8,encRs Fs),(10,encRs Gs),(11,encXs Vs),(12,encRs Os),(13,encRs Ns)]⟩) (fun _=>Oe=0/\Ne=0) ?_ ?_
  ·(repeat' ((conv=>whnf);first|(with_reducible first|refine g4 ?_|refine g5 ?_)|refine zG ?_|apply zA|(apply zI;intro h)|exact zT));(all_goals conv=>whnf)
   all_goals first
    |(refine⟨(),⟨by with_reducible assumption,by with_reducible assumption⟩,?_⟩
      (exact leA)
      done)
    |(rw[bindE_no (x:=(Os,Oe)) h]at hK
      exact⟨_,Weak.tup2 Weak.nils Weak.refl,hK⟩)
    |(rw[bindE_ok (x:=(Os,Oe)) (by with_reducible assumption),bindE_no (x:=(Ns,Ne)) h]at hK
      exact⟨_,Weak.tup2 Weak.nils Weak.refl,hK⟩)
  rintro⟨⟩ ⟨h1,h2⟩
  rw[bindE_ok (x:=(Os,Oe)) h1,bindE_ok (x:=(Ns,Ne)) h2]at hK
  simp only at hK
  generalize makeP (btwB Fs Gs)=B at*
  generalize makeP (btwB Os Ns)=D at*
  generalize hC:combP anB B.1 Vs=C at*
  generalize hX:combP woB C.1 D.1=X at*
  obtain⟨Bs,Be⟩:=B
  obtain⟨Cs,Ce⟩:=C
  obtain⟨Ds,De⟩:=D
  obtain⟨Xs,Xe⟩:=X
  simp only at b1 i1 b2 i2 hK hC hX
  (repeat' ((conv=>whnf);first|(with_reducible first|refine b1 ?_|refine i1 ?_|refine b2 ?_|refine i2 ?_)|refine zG ?_|apply zA|(apply zI;intro h)|exact zT));(all_goals conv=>whnf)
  ·rw[bindE_ok (x:=(Bs,Be)) (by with_reducible assumption)]at hK
   simp only[hC]at hK
   rw[if_neg (fun hh=>hh.elim (fun hn=>hn (by with_reducible assumption)) (fun hn=>by cases hn)),bindE_ok (x:=(Ds,De)) h]at hK
   simp only[hX]at hK
   exact⟨_,Weak.refl,hK⟩
  ·rw[bindE_ok (x:=(Bs,Be)) (by with_reducible assumption)]at hK
   simp only[hC]at hK
   rw[if_neg (fun hh=>hh.elim (fun hn=>hn (by with_reducible assumption)) (fun hn=>by cases hn)),bindE_no (x:=(Ds,De)) h]at hK
   exact⟨_,Weak.tup2 Weak.nils Weak.refl,hK⟩
  ·rw[bindE_ok (x:=(Bs,Be)) (by with_reducible assumption)]at hK
   simp only[hC]at hK
   rw[if_pos (.inl h)]at hK
   exact⟨_,Weak.refl,hK⟩
  ·rw[bindE_no (x:=(Bs,Be)) h]at hK
   exact⟨_,Weak.tup2 Weak.nils Weak.refl,hK⟩
 ·have hexf:s.exc=false:=by simpa using hex
  simp only[hexf,Bool.false_eq_true,if_false]at hK
  rw[bindE_ok (x:=(([]:List Rg),(0:Int))) rfl,bindE_ok (x:=(([]:List Rg),(0:Int))) rfl]at hK
  refine Jn.at ⟨3,[(2,.box [.sb s.permit,.v (.string s.frm),.v (.string s.to),.v (.string s.svc),.sb s.exc,.v (.string s.exF),.v (.string s.exT),.v (.string s.cls),.v (.string s.dur),.v (.int .i64 s.pri)])],[(5,.op 2 0),(8,encRs Fs),(10,encRs Gs),(11,encXs Vs)]⟩ ?_ ?_
  ·(repeat' ((conv=>whnf);first|refine zG ?_|apply zA|(apply zI;intro h)|exact zT));(all_goals conv=>whnf)
   refine⟨(),trivial,?_⟩
   (exact leA)
  simp only at hK
  generalize makeP (btwB Fs Gs)=B at*
  generalize hC:combP anB B.1 Vs=C at*
  obtain⟨Bs,Be⟩:=B
  obtain⟨Cs,Ce⟩:=C
  simp only at b1 i1 hK hC
  (repeat' ((conv=>whnf);first|(with_reducible first|refine b1 ?_|refine i1 ?_)|refine zG ?_|apply zA|(apply zI;intro h)|exact zT));(all_goals conv=>whnf)
  all_goals first
   |(rw[bindE_no (x:=(Bs,Be)) h]at hK
     exact⟨_,Weak.tup2 Weak.nils Weak.refl,hK⟩)
   |(rw[bindE_ok (x:=(Bs,Be)) (by with_reducible assumption)]at hK
     simp only[hC,or_true,if_true,ite_self]at hK
     exact⟨_,Weak.refl,hK⟩)
   |trace_state
noncomputable def grpV(t:Tp)(i:Nt)(nm:ByteArray):List Rg×Int:=if compB t=true/\ntB i=true then grpP t i nm else([],1)
noncomputable def svcV(i:Nt)(nm:ByteArray):List Bx×Int:=if ntB i=true then svcP i nm else([],1)
theorem crGroup(t:Tp)(ht:t.edges.length<1000000)(i:Nt)(hb:Bnd i)(nm:ByteArray){K:KT}(hK:K (.tup [encRs (grpV t i nm).1,.v (.int .i64 (grpV t i nm).2)]) []):ACall Tryz.prog 13 [encT t,encNt i,.v (.string nm)] [] K:=by
 refine ACall.weak (ofwGroup rfl rfl ?_)
 unfold grpV at hK
 by_cases hc:compB t=true
 ·have hg:=fun {K} h=>@crGrp t hc i hb nm K h
  (repeat' ((conv=>whnf);first|(with_reducible first|refine ctComp t ht ?_|refine ckNt i hb ?_|refine hg ?_)|refine zG ?_|apply zA|(apply zI;intro h)|exact zT));(all_goals conv=>whnf)
  all_goals first
   |(rw[if_pos ⟨hc,h⟩]at hK
     exact⟨_,Weak.refl,hK⟩)
   |(rw[if_neg (fun hh=>by rw[hh.2]at h;cases h)]at hK
     exact⟨_,Weak.tup2 Weak.nils Weak.refl,hK⟩)
   |trace_state
 ·have hcf:compB t=false:=by simpa using hc
  rw[if_neg (fun hh=>hc hh.1)]at hK
  (repeat' ((conv=>whnf);first|(with_reducible refine ctComp t ht ?_)|refine zG ?_|apply zA|(apply zI;intro h)|exact zT));(all_goals conv=>whnf)
  exact⟨_,Weak.tup2 Weak.nils Weak.refl,hK⟩
theorem crService(i:Nt)(hb:Bnd i)(nm:ByteArray){K:KT}(hK:K (.tup [encXs (svcV i nm).1,.v (.int .i64 (svcV i nm).2)]) []):ACall Tryz.prog 24 [encNt i,.v (.string nm)] [] K:=by
 refine ACall.weak (ofrService rfl rfl ?_)
 unfold svcV at hK
 (repeat' ((conv=>whnf);first|(with_reducible first|refine ckNt i hb ?_|refine crSvc i hb nm ?_)|refine zG ?_|apply zA|(apply zI;intro h)|exact zT));(all_goals conv=>whnf)
 all_goals first
  |(rw[if_pos h]at hK
    exact⟨_,Weak.refl,hK⟩)
  |(rw[if_neg (fun hh=>by rw[hh]at h;cases h)]at hK
    exact⟨_,Weak.tup2 Weak.nils Weak.refl,hK⟩)
  |trace_state
noncomputable abbrev clSm(s:Sm):List AV:=[.sb s.permit,.v (.string s.frm),.v (.string s.to),.v (.string s.svc),.sb s.exc,.v (.string s.exF),.v (.string s.exT),.v (.string s.cls),.v (.string s.dur),.v (.int .i64 s.pri)]
theorem crNam1(d:Dv)(s:Sm){K:KT}(hK:K (.sb (sEq d.cls s.cls)) []):ACall Tryz.prog 148 [encD d,.fp (clSm s)] [] K:=by
 refine ofrNam1 rfl rfl ?_
 (repeat' ((conv=>whnf);first|refine zG ?_|apply zA|(apply zI;intro h)|exact zT));(all_goals conv=>whnf)
 exact hK
theorem crNam2(d:Wn)(s:Sm){K:KT}(hK:K (.sb (sEq d.name s.dur)) []):ACall Tryz.prog 150 [encWn d,.fp (clSm s)] [] K:=by
 refine ofrNam2 rfl rfl ?_
 (repeat' ((conv=>whnf);first|refine zG ?_|apply zA|(apply zI;intro h)|exact zT));(all_goals conv=>whnf)
 exact hK
theorem crAnD(l:List Dv)(s:Sm)(hl:l.length<1000000){K:KT}(hK:K (.sb (l.any fun d=>sEq d.cls s.cls)) []):
  ACall Tryz.prog 147 [.lst (l.map encD),.fn (.func 148) [] [.fp (clSm s)]] [] K:=by
 have hc:∀{K:KT},K (.v (.int .i64 (firstIx (fun d:Dv=>sEq d.cls s.cls) l))) []->ACall Tryz.prog 175 [.lst (l.map encD),.fn (.func 148) [] [.fp (clSm s)]] [] K:=fun h=>cixDev l _ _ (fun d=>sEq d.cls s.cls) (fun x K h=>crNam1 x s h) hl h
 refine ofrAnD rfl rfl ?_
 (repeat' ((conv=>whnf);first|(with_reducible refine hc ?_)|refine zG ?_|apply zA|(apply zI;intro h)|exact zT));(all_goals conv=>whnf)
 rw[<-first_any]at hK
 exact hK
theorem crAnW(l:List Wn)(s:Sm)(hl:l.length<1000000){K:KT}(hK:K (.sb (l.any fun d=>sEq d.name s.dur)) []):
  ACall Tryz.prog 149 [.lst (l.map encWn),.fn (.func 150) [] [.fp (clSm s)]] [] K:=by
 have hc:∀{K:KT},K (.v (.int .i64 (firstIx (fun d:Wn=>sEq d.name s.dur) l))) []->ACall Tryz.prog 137 [.lst (l.map encWn),.fn (.func 150) [] [.fp (clSm s)]] [] K:=fun h=>cixW l _ _ (fun d=>sEq d.name s.dur) (fun x K h=>crNam2 x s h) hl h
 refine ofrAnW rfl rfl ?_
 (repeat' ((conv=>whnf);first|(with_reducible refine hc ?_)|refine zG ?_|apply zA|(apply zI;intro h)|exact zT));(all_goals conv=>whnf)
 rw[<-first_any]at hK
 exact hK
theorem crNames(t:Tp)(ht:t.devs.length<1000000)(i:Nt)(hb:Bnd i)(s:Sm){K:KT}(hK:K (.v (.int .i64 (namE t i s))) []):ACall Tryz.prog 89 [encT t,encNt i,encSm s] [] K:=by
 have bw:=hb.w
 refine ofrNames rfl rfl ?_
 (repeat' ((conv=>whnf);first|(with_reducible first|refine crAnD t.devs s ht ?_|refine crAnW i.wins s (by omega) ?_)|refine zG ?_|apply zA|(apply zI;intro h)|exact zT));(all_goals conv=>whnf)
 all_goals
  have e:∀b:ByteArray,sEq b ⟨#[]⟩=(b.toList==(⟨#[]⟩:ByteArray).toList):=fun _=>rfl
  unfold namE at hK
  rw[e,e]at hK
  simp_all
 all_goals first
  |exact hK
  |trace_state
theorem fstE_cons{α:Type}(f:α->Int)(x:α)(l:List α):fstE f (x::l)=if f x≠0 then f x else fstE f l:=rfl
noncomputable def chkV(t:Tp)(i:Nt):Int:=if compB t=true/\ntB i=true then chkP t i else 1
theorem chkP_eq(t:Tp)(i:Nt):chkP t i=
  if fstE (fun d:Df=>(grpP t i d.name).2) i.grps≠0 then fstE (fun d:Df=>(grpP t i d.name).2) i.grps else
  if fstE (fun d:Df=>(svcP i d.name).2) i.svcs≠0 then fstE (fun d:Df=>(svcP i d.name).2) i.svcs else
  if fstE (fun s:Sm=>if(stmP t i s).2≠0 then(stmP t i s).2 else namE t i s) i.sts≠0 then fstE (fun s:Sm=>if(stmP t i s).2≠0 then(stmP t i s).2 else namE t i s) i.sts else
  if fstE (fun p:Pb=>if edgeIx t.edges p.edge<0 then 5 else 0) i.pubs≠0 then fstE (fun p:Pb=>if edgeIx t.edges p.edge<0 then 5 else 0) i.pubs else
  fstE (fun h:Hn=>if edgeIx t.edges h.edge<0 then 5 else(grpP t i h.grp).2) i.hids:=rfl
theorem crCheck(t:Tp)(ht:t.edges.length<1000000)(hd:t.devs.length<1000000)(i:Nt)(hb:Bnd i){K:KT}(hK:K (.v (.int .i64 (chkV t i))) []):ACall Tryz.prog 47 [encT t,encNt i] [] K:=by
 have bg:=hb.g;have bs:=hb.s;have bt:=hb.t;have bp:=hb.p;have bh:=hb.h
 refine ofrCheck rfl rfl ?_
 unfold chkV at hK
 by_cases hc:compB t=true
 rotate_left
 ·have hcf:compB t=false:=by simpa using hc
  rw[if_neg (fun hh=>hc hh.1)]at hK
  (repeat' ((conv=>whnf);first|(with_reducible refine ctComp t ht ?_)|refine zG ?_|apply zA|(apply zI;intro h)|exact zT));(all_goals conv=>whnf)
  exact hK
 by_cases hn:ntB i=true
 rotate_left
 ·have hnf:ntB i=false:=by simpa using hn
  rw[if_neg (fun hh=>hn hh.2)]at hK
  (repeat' ((conv=>whnf);first|(with_reducible first|refine ctComp t ht ?_|refine ckNt i hb ?_)|refine zG ?_|apply zA|(apply zI;intro h)|exact zT));(all_goals conv=>whnf)
  exact hK
 rw[if_pos ⟨hc,hn⟩,chkP_eq]at hK
 have hg:=fun(nm:ByteArray) {K:KT} h=>@crGrp t hc i hb nm K h
 have hs:=fun(nm:ByteArray) {K:KT} h=>@crSvc i hb nm K h
 have hm:=fun(s:Sm) {K:KT} h=>@crStm t hc i hb s K h
 (repeat' ((conv=>whnf);first|(with_reducible first|refine ctComp t ht ?_|refine ckNt i hb ?_)|refine zG ?_|apply zA|(apply zI;intro h)|exact zT));(all_goals conv=>whnf)
 refine Lp.intro Nat (fun n=>⟨2,[(0,boxT t),(1,boxNt i)],[(2,.op 0 0),(3,.op 1 0),(33,.lst (i.grps.map encDf)),(34,.v (.int .i64 (i.grps.map encDf).length)),(35,.v (.int .i64 n))]⟩) (fun n=>n<=i.grps.length/\fstE (fun d:Df=>(grpP t i d.name).2) i.grps=fstE (fun d:Df=>(grpP t i d.name).2) (i.grps.drop n)) (fun n=>i.grps.length-n) 0 ⟨Nat.zero_le _,by rw[List.drop_zero]⟩ ?_ ?_
 ·(exact leA)
 intro n ⟨hn1,heq⟩
 rcases Nat.lt_or_ge n i.grps.length with hnl|hnl
 ·obtain⟨x,hx⟩:=gex hnl
  have hdr:i.grps.drop n=x::i.grps.drop (n+1):=by
   rw[List.getElem?_eq_getElem hnl]at hx
   rw[<-Option.some.inj hx,<-List.drop_eq_getElem_cons hnl]
  rw[hdr,fstE_cons]at heq
  have hgx:=fun {K} h=>@hg x.name K h
  generalize grpP t i x.name=G at*
  obtain⟨Gs,Ge⟩:=G
  simp only at heq hgx
  (repeat' ((conv=>whnf);first|(with_reducible first|refine in_map hnl ?_|refine ix_map hx ?_|refine hgx ?_)|refine zG ?_|apply zA|(apply zI;intro h)|exact zT));(all_goals conv=>whnf)
  all_goals first
   |(rw[if_neg (fun hh=>hh h)]at heq
     refine⟨n+1,⟨hnl,heq⟩,by omega,?_⟩
     rw[Int.natCast_add,Int.natCast_one]
     (exact leA)
     done)
   |(rw[if_pos h]at heq
     rw[heq,if_pos h]at hK
     exact hK)
   |trace_state
 rw[List.drop_of_length_le hnl]at heq
 have e0:fstE (fun d:Df=>(grpP t i d.name).2) i.grps=0:=heq
 clear heq
 (repeat' ((conv=>whnf);first|refine zG ?_|apply zA|(apply zI;intro h)|exact zT));(all_goals conv=>whnf)
 refine Lp.intro Nat (fun n=>⟨2,[(0,boxT t),(1,boxNt i)],[(2,.op 0 0),(3,.op 1 0),(52,.lst (i.svcs.map encDf)),(53,.v (.int .i64 (i.svcs.map encDf).length)),(54,.v (.int .i64 n))]⟩) (fun n=>n<=i.svcs.length/\fstE (fun d:Df=>(svcP i d.name).2) i.svcs=fstE (fun d:Df=>(svcP i d.name).2) (i.svcs.drop n)) (fun n=>i.svcs.length-n) 0 ⟨Nat.zero_le _,by rw[List.drop_zero]⟩ ?_ ?_
 ·(exact leA)
 intro n ⟨hn1,heq⟩
 rcases Nat.lt_or_ge n i.svcs.length with hnl|hnl
 ·obtain⟨x,hx⟩:=gex hnl
  have hdr:i.svcs.drop n=x::i.svcs.drop (n+1):=by
   rw[List.getElem?_eq_getElem hnl]at hx
   rw[<-Option.some.inj hx,<-List.drop_eq_getElem_cons hnl]
  rw[hdr,fstE_cons]at heq
  have hsx:=fun {K} h=>@hs x.name K h
  generalize svcP i x.name=G at*
  obtain⟨Gs,Ge⟩:=G
  simp only at heq hsx
  (repeat' ((conv=>whnf);first|(with_reducible first|refine in_map hnl ?_|refine ix_map hx ?_|refine hsx ?_)|refine zG ?_|apply zA|(apply zI;intro h)|exact zT));(all_goals conv=>whnf)
  all_goals first
   |(rw[if_neg (fun hh=>hh h)]at heq
     refine⟨n+1,⟨hnl,heq⟩,by omega,?_⟩
     rw[Int.natCast_add,Int.natCast_one]
     (exact leA)
     done)
   |(rw[if_pos h]at heq
     rw[if_neg (fun hh=>hh e0)]at hK
     rw[heq,if_pos h]at hK
     exact hK)
   |trace_state
 rw[List.drop_of_length_le hnl]at heq
 have e1:fstE (fun d:Df=>(svcP i d.name).2) i.svcs=0:=heq
 clear heq
 (repeat' ((conv=>whnf);first|refine zG ?_|apply zA|(apply zI;intro h)|exact zT));(all_goals conv=>whnf)
 refine Lp.intro Nat (fun n=>⟨2,[(0,boxT t),(1,boxNt i)],[(2,.op 0 0),(3,.op 1 0),(70,.lst (i.sts.map encSm)),(71,.v (.int .i64 (i.sts.map encSm).length)),(72,.v (.int .i64 n))]⟩) (fun n=>n<=i.sts.length/\fstE (fun s:Sm=>if(stmP t i s).2≠0 then(stmP t i s).2 else namE t i s) i.sts=fstE (fun s:Sm=>if(stmP t i s).2≠0 then(stmP t i s).2 else namE t i s) (i.sts.drop n)) (fun n=>i.sts.length-n) 0 ⟨Nat.zero_le _,by rw[List.drop_zero]⟩ ?_ ?_
 ·(exact leA)
 intro n ⟨hn1,heq⟩
 rcases Nat.lt_or_ge n i.sts.length with hnl|hnl
 ·obtain⟨x,hx⟩:=gex hnl
  have hdr:i.sts.drop n=x::i.sts.drop (n+1):=by
   rw[List.getElem?_eq_getElem hnl]at hx
   rw[<-Option.some.inj hx,<-List.drop_eq_getElem_cons hnl]
  rw[hdr,fstE_cons]at heq
  have hmx:=fun {K} h=>@hm x K h
  generalize stmP t i x=G at*
  obtain⟨Gs,Ge⟩:=G
  simp only at heq hmx
  (repeat' ((conv=>whnf);first|(with_reducible first|refine in_map hnl ?_|refine ix_map hx ?_|refine hmx ?_|refine crNames t hd i hb x ?_)|refine zG ?_|apply zA|(apply zI;intro h)|exact zT));(all_goals conv=>whnf)
  all_goals first
   |(rename_i hz
     rw[if_neg (show ¬(Ge≠0)from fun hh=>hh hz),if_neg (fun hh=>hh h)]at heq
     refine⟨n+1,⟨hnl,heq⟩,by omega,?_⟩
     rw[Int.natCast_add,Int.natCast_one]
     (exact leA)
     done)
   |(rw[if_pos h,if_pos h]at heq
     rw[if_neg (fun hh=>hh e0),if_neg (fun hh=>hh e1)]at hK
     rw[heq,if_pos h]at hK
     exact hK)
   |(rename_i hz
     rw[if_neg (show ¬(Ge≠0)from fun hh=>hh hz),if_pos h]at heq
     rw[if_neg (fun hh=>hh e0),if_neg (fun hh=>hh e1)]at hK
     rw[heq,if_pos h]at hK
     exact hK)
   |trace_state
 rw[List.drop_of_length_le hnl]at heq
 have e2:fstE (fun s:Sm=>if(stmP t i s).2≠0 then(stmP t i s).2 else namE t i s) i.sts=0:=heq
 clear heq
 (repeat' ((conv=>whnf);first|refine zG ?_|apply zA|(apply zI;intro h)|exact zT));(all_goals conv=>whnf)
 refine Lp.intro Nat (fun n=>⟨2,[(0,boxT t),(1,boxNt i)],[(2,.op 0 0),(3,.op 1 0),(95,.lst (i.pubs.map encPb)),(96,.v (.int .i64 (i.pubs.map encPb).length)),(97,.v (.int .i64 n))]⟩) (fun n=>n<=i.pubs.length/\fstE (fun p:Pb=>if edgeIx t.edges p.edge<0 then 5 else 0) i.pubs=fstE (fun p:Pb=>if edgeIx t.edges p.edge<0 then 5 else 0) (i.pubs.drop n)) (fun n=>i.pubs.length-n) 0 ⟨Nat.zero_le _,by rw[List.drop_zero]⟩ ?_ ?_
 ·(exact leA)
 intro n ⟨hn1,heq⟩
 rcases Nat.lt_or_ge n i.pubs.length with hnl|hnl
 ·obtain⟨x,hx⟩:=gex hnl
  have hdr:i.pubs.drop n=x::i.pubs.drop (n+1):=by
   rw[List.getElem?_eq_getElem hnl]at hx
   rw[<-Option.some.inj hx,<-List.drop_eq_getElem_cons hnl]
  rw[hdr,fstE_cons]at heq
  (repeat' ((conv=>whnf);first|(with_reducible first|refine in_map hnl ?_|refine ix_map hx ?_|refine ctEdge t _ ht ?_)|refine zG ?_|apply zA|(apply zI;intro h)|exact zT));(all_goals conv=>whnf)
  all_goals first
   |(rw[if_neg h,if_neg (by decide)]at heq
     refine⟨n+1,⟨hnl,heq⟩,by omega,?_⟩
     rw[Int.natCast_add,Int.natCast_one]
     (exact leA)
     done)
   |(rw[if_pos h,if_pos (by decide)]at heq
     rw[if_neg (fun hh=>hh e0),if_neg (fun hh=>hh e1),if_neg (fun hh=>hh e2)]at hK
     rw[heq,if_pos (by decide)]at hK
     exact hK)
   |trace_state
 rw[List.drop_of_length_le hnl]at heq
 have e3:fstE (fun p:Pb=>if edgeIx t.edges p.edge<0 then 5 else 0) i.pubs=0:=heq
 clear heq
 (repeat' ((conv=>whnf);first|refine zG ?_|apply zA|(apply zI;intro h)|exact zT));(all_goals conv=>whnf)
 refine Lp.intro Nat (fun n=>⟨2,[(0,boxT t),(1,boxNt i)],[(2,.op 0 0),(3,.op 1 0),(108,.lst (i.hids.map encHn)),(109,.v (.int .i64 (i.hids.map encHn).length)),(110,.v (.int .i64 n))]⟩) (fun n=>n<=i.hids.length/\fstE (fun h:Hn=>if edgeIx t.edges h.edge<0 then 5 else(grpP t i h.grp).2) i.hids=fstE (fun h:Hn=>if edgeIx t.edges h.edge<0 then 5 else(grpP t i h.grp).2) (i.hids.drop n)) (fun n=>i.hids.length-n) 0 ⟨Nat.zero_le _,by rw[List.drop_zero]⟩ ?_ ?_
 ·(exact leA)
 intro n ⟨hn1,heq⟩
 rcases Nat.lt_or_ge n i.hids.length with hnl|hnl
 ·obtain⟨x,hx⟩:=gex hnl
  have hdr:i.hids.drop n=x::i.hids.drop (n+1):=by
   rw[List.getElem?_eq_getElem hnl]at hx
   rw[<-Option.some.inj hx,<-List.drop_eq_getElem_cons hnl]
  rw[hdr,fstE_cons]at heq
  have hgx:=fun {K} h=>@hg x.grp K h
  generalize grpP t i x.grp=G at*
  obtain⟨Gs,Ge⟩:=G
  simp only at heq hgx
  (repeat' ((conv=>whnf);first|(with_reducible first|refine in_map hnl ?_|refine ix_map hx ?_|refine ctEdge t _ ht ?_|refine hgx ?_)|refine zG ?_|apply zA|(apply zI;intro h)|exact zT));(all_goals conv=>whnf)
  all_goals first
   |(rename_i hz
     rw[if_neg hz,if_neg (fun hh=>hh h)]at heq
     refine⟨n+1,⟨hnl,heq⟩,by omega,?_⟩
     rw[Int.natCast_add,Int.natCast_one]
     (exact leA)
     done)
   |(rw[if_pos h,if_pos (by decide)]at heq
     rw[if_neg (fun hh=>hh e0),if_neg (fun hh=>hh e1),if_neg (fun hh=>hh e2),if_neg (fun hh=>hh e3)]at hK
     rw[heq]at hK
     exact hK)
   |(rename_i hz
     rw[if_neg hz,if_pos h]at heq
     rw[if_neg (fun hh=>hh e0),if_neg (fun hh=>hh e1),if_neg (fun hh=>hh e2),if_neg (fun hh=>hh e3)]at hK
     rw[heq]at hK
     exact hK)
   |trace_state
 rw[List.drop_of_length_le hnl]at heq
 have e4:fstE (fun h:Hn=>if edgeIx t.edges h.edge<0 then 5 else(grpP t i h.grp).2) i.hids=0:=heq
 clear heq
 rw[if_neg (fun hh=>hh e0),if_neg (fun hh=>hh e1),if_neg (fun hh=>hh e2),if_neg (fun hh=>hh e3),e4]at hK
 (repeat' ((conv=>whnf);first|refine zG ?_|apply zA|(apply zI;intro h)|exact zT));(all_goals conv=>whnf)
 exact hK
def inIt(t:Tp)(x:It)(u:Int):Prop:=if x.kind=2 then has [x.pf.rg] u=true else ∃e,e∈t.edges/\sEq e.zone x.name=true/\has [e.pf.rg] u=true
def okIt(t:Tp)(x:It):Bool:=decide (x.kind=2)|| !(ixs (fun e=>sEq e.zone x.name) t.edges t.edges.length).isEmpty
theorem has_app(a b:List Rg)(u:Int):has (a++b) u=(has a u||has b u):=by unfold has;rw[List.any_append]
theorem vis_G(t:Tp):Vis (visG t) (fun rs u=>has rs u=true) (inIt t) (okIt t) where
 add:=fun x s h u=>by
  unfold visG at h⊢
  unfold inIt
  by_cases hk:x.kind=2
  ·simp only[if_pos hk]
   rw[has_app,Bool.or_eq_true]
  ·simp only[if_neg hk]at h⊢
   by_cases hi:ixs (fun e=>sEq e.zone x.name) t.edges t.edges.length=[]
   ·rw[if_pos hi]at h;simp at h
   ·rw[if_neg hi]
    simp only
    rw[has_app,Bool.or_eq_true]
    refine or_congr Iff.rfl ?_
    constructor
    ·intro hh
     obtain⟨r,hr,h1,h2⟩:=has_iff.1 hh
     obtain⟨n,hn,rfl⟩:=List.mem_map.1 hr
     obtain⟨_,e,he,hz⟩:=ixs_lt hn
     refine⟨e,List.mem_of_getElem? he,hz,has_iff.2 ⟨e.pf.rg,by simp,?_⟩⟩
     rw[rgAt,he]at h1 h2
     exact⟨h1,h2⟩
    ·rintro⟨e,he,hz,hh⟩
     obtain⟨k,hk2⟩:=List.mem_iff_getElem?.1 he
     obtain⟨r,hr,h1,h2⟩:=has_iff.1 hh
     rw[List.mem_singleton.1 hr]at h1 h2
     refine has_iff.2 ⟨rgAt t k,List.mem_map.2 ⟨k,?_,rfl⟩,?_⟩
     ·rw[ixs,List.mem_filter,List.mem_range]
      exact⟨(List.getElem?_eq_some_iff.1 hk2).1,by simp only[hk2];exact hz⟩
     ·rw[rgAt,hk2];exact⟨h1,h2⟩
 ok:=fun x s=>by
  unfold visG okIt
  by_cases hk:x.kind=2
  ·simp[hk]
  ·simp only[if_neg hk]
   cases hi:ixs (fun e=>sEq e.zone x.name) t.edges t.edges.length with
   |nil=>simp[hk]
   |cons a l=>simp
theorem folI_err{S:Type}{v:It->S->Int×S}(hv:∀x s,(v x s).1=0\/(v x s).1=5){rec:ByteArray->List Nat->S->Int×List Nat×S}(hr:∀nm d s,(rec nm d s).1=0\/(rec nm d s).1=5\/(rec nm d s).1=8):
  ∀(its:List It) (d:List Nat) (s:S),(folI v rec its d s).1=0\/(folI v rec its d s).1=5\/(folI v rec its d s).1=8
 |[],d,s=>.inl rfl
 |x::r,d,s=>by
  rw[folI_cons]
  have hq:(if x.kind=3 then rec x.name d s else((v x s).1,d,(v x s).2)).1=0\/(if x.kind=3 then rec x.name d s else((v x s).1,d,(v x s).2)).1=5\/(if x.kind=3 then rec x.name d s else((v x s).1,d,(v x s).2)).1=8:=by
   by_cases hk:x.kind=3
   ·rw[if_pos hk];exact hr _ _ _
   ·rw[if_neg hk]
    rcases hv x s with h|h
    ·exact .inl h
    ·exact .inr (.inl h)
  generalize (if x.kind=3 then rec x.name d s else((v x s).1,d,(v x s).2))=q at*
  split
  ·exact folI_err hv hr r _ _
  ·exact hq
theorem fol_err{S:Type}{v:It->S->Int×S}(hv:∀x s,(v x s).1=0\/(v x s).1=5)(l:List Df):∀(k:Nat) (p:List Nat) (nm:ByteArray) (d:List Nat) (s:S),(fol v l k p nm d s).1=0\/(fol v l k p nm d s).1=5\/(fol v l k p nm d s).1=8
 |0,p,nm,d,s=>by simp[fol]
 |k+1,p,nm,d,s=>by
  unfold fol
  cases findD l nm with
  |none=>simp
  |some n=>
   simp only
   split
   ·simp
   ·split
    ·simp
    ·split
     ·simp
     ·exact folI_err hv (fun nm d s=>fol_err hv l k (p++[n]) nm d s) _ _ _
theorem grpE_err(t:Tp)(l:List Df)(nm:ByteArray):(grpE t l nm).1=0\/(grpE t l nm).1=5\/(grpE t l nm).1=8:=by
 unfold grpE
 split
 ·exact .inl rfl
 ·exact fol_err (fun x s=>by
   unfold visG
   split
   ·exact .inl rfl
   ·split
    ·exact .inr rfl
    ·exact .inl rfl) l _ _ _ _ _
theorem grp_lead{t:Tp}{l:List Df}{nm:ByteArray}(hn:sEq nm ⟨#[]⟩=false)(h:(grpE t l nm).1=0):Good l (okIt t) nm/\∀u,has (grpE t l nm).2 u=true↔Lead l (inIt t) nm u:=by
 unfold grpE at h⊢
 rw[if_neg (by rw[hn];decide)]at h⊢
 exact fol_lead (visG t) (fun rs u=>has rs u=true) (inIt t) (okIt t) (vis_G t) l nm [] (fun u=>by simp[has]) h
theorem grp_good{t:Tp}{l:List Df}{nm:ByteArray}(h:Good l (okIt t) nm):(grpE t l nm).1=0:=by
 unfold grpE
 split
 ·rfl
 ·exact fol_good0 (visG t) (fun rs u=>has rs u=true) (inIt t) (okIt t) (vis_G t) h []
def sEqD(a b:ByteArray):Bool:=a.data.toList==b.data.toList
def itC(x:It)(g:Bool):Bool:=
 if x.kind=3 then nmChk x.name.data.toList&&itN x
 else if x.kind=1 then g&&(nmChk x.name.data.toList&&itN x)
 else if x.kind=2 then g&&(decide x.pf.okP&&(sEqD x.name ⟨#[]⟩&&decide (x.proto=0/\x.ports.lo=0/\x.ports.hi=0)))
 else if x.kind=4 then !g&&(prB x.proto x.ports&&(sEqD x.name ⟨#[]⟩&&decide (x.pf.addr=0/\x.pf.bits=0)))else false
theorem itC_itB{x:It}{g:Bool}(h:itC x g=true):itB x g=true:=by
 have hn:nmChk x.name.data.toList=true->nameB x.name=true:=fun h=>nameB_true (nameOk_data h)
 have he:sEqD x.name ⟨#[]⟩=sEq x.name ⟨#[]⟩:=(sEq_data _ _).symm
 unfold itC at h
 unfold itB itP itS
 rw[he]at h
 split
 ·rename_i hk
  rw[if_pos hk,Bool.and_eq_true]at h
  rw[hn h.1,h.2];rfl
 ·rename_i hk
  rw[if_neg hk]at h
  split
  ·rename_i hk1
   rw[if_pos hk1,Bool.and_eq_true,Bool.and_eq_true]at h
   rw[h.1,hn h.2.1,h.2.2];rfl
  ·rename_i hk1
   rw[if_neg hk1]at h
   exact h
def dfC(l:List Df)(g:Bool)(i:Nat)(d:Df):Bool:=
 nmChk d.name.data.toList&&(decide (l.findIdx? (fun e=>sEqD e.name d.name)=some i)&&(decide (1<=d.items.length)&&(decide (d.items.length<=16)&&d.items.all fun x=>itC x g)))
def dfsC(l:List Df)(g:Bool):Bool:=decide (l.length<=32)&&(l.zipIdx.all fun q=>dfC l g q.2 q.1)
theorem dfsC_ok{l:List Df}{g:Bool}(h:dfsC l g=true):DfsOk l g:=by
 unfold dfsC at h
 rw[Bool.and_eq_true,decide_eq_true_eq,List.all_eq_true]at h
 refine⟨h.1,fun i d hd=>?_⟩
 have h2:=h.2 (d,i) (List.mem_zipIdx_iff_getElem?.2 hd)
 unfold dfC at h2
 simp only[Bool.and_eq_true,decide_eq_true_eq,List.all_eq_true]at h2
 obtain⟨h3,h4,h5,h6,h7⟩:=h2
 refine⟨nameB_true (nameOk_data h3),?_,h5,h6,fun x hx=>itC_itB (h7 x hx)⟩
 have e:(fun e:Df=>sEq e.name d.name)=fun e=>sEqD e.name d.name:=by funext e;exact sEq_data _ _
 unfold dfIx firstIx
 rw[e,h4]
def defI(g s:List Df):Nt:=⟨g,s,[],[],[],[]⟩
theorem defI_ok{g s:List Df}(hg:dfsC g true=true)(hs:dfsC s false=true):NtOk (defI g s):=
 ⟨dfsC_ok hg,dfsC_ok hs,Nat.zero_le _,Nat.zero_le _,Nat.zero_le _,Nat.zero_le _,fun k x h=>by simp[defI]at h,fun x h=>by simp[defI]at h,fun x h=>by simp[defI]at h,fun x h=>by simp[defI]at h⟩
/-! the topology of the examples -/
def pf0:Pf:=⟨167772160,24,by decide,by decide⟩
def pf1:Pf:=⟨167772416,24,by decide,by decide⟩
def pf4:Pf:=⟨2886729728,16,by decide,by decide⟩
def netR:Tp:=⟨[⟨⟨#[114]⟩,0,false,false,⟨#[]⟩⟩],[],[⟨⟨#[97]⟩,0,⟨#[108,97,110]⟩,pf0,false⟩,⟨⟨#[98]⟩,0,⟨#[100,109,122]⟩,pf4,false⟩],[],0⟩
theorem topOk_netR:TopOk netR:=by
 have sEqr:∀s:ByteArray,sEq s s=true:=fun s=>by rw[sEq_data];simp
 refine⟨by simp[netR],by simp[netR],by simp[netR],by simp[netR],by simp[netR],by simp[netR],by simp[netR],?_,?_,?_,?_,?_⟩
 ·intro i d hi
  match i,hi with
  |0,hi=>
   simp[netR]at hi;subst hi
   exact⟨⟨nameOk_data (s:=⟨#[114]⟩) (by decide),by decide,by decide,.inl (sEqr _)⟩,firstIx_at (k:=0) rfl (sEqr _) (fun j y hj=>absurd hj (Nat.not_lt_zero _))⟩
  |i+1,hi=>simp[netR]at hi
 ·intro i l hi
  simp[netR]at hi
 ·intro i e hi
  match i,hi with
  |0,hi=>
   simp[netR]at hi;subst hi
   exact⟨⟨nameOk_data (by decide),nameOk_data (by decide),by decide,by simp[netR],by decide,by decide,by decide⟩,firstIx_at (k:=0) rfl (sEqr _) (fun j y hj=>absurd hj (Nat.not_lt_zero _))⟩
  |1,hi=>
   simp[netR]at hi;subst hi
   refine⟨⟨nameOk_data (by decide),nameOk_data (by decide),by decide,by simp[netR],by decide,by decide,by decide⟩,firstIx_at (k:=1) rfl (sEqr _) (fun j y hj hy=>?_)⟩
   obtain rfl:j=0:=by omega
   simp[netR]at hy;subst hy
   rw[sEq_data];rfl
  |i+2,hi=>simp[netR]at hi
 ·rintro i e hi j o hj ho ⟨_,_,h3⟩
  match i,hi,j,ho with
  |0,hi,j,ho=>omega
  |1,hi,0,ho=>simp[netR]at hi ho;subst hi;subst ho;revert h3;decide
  |1,hi,j+1,ho=>omega
  |i+2,hi,j,ho=>simp[netR]at hi
 ·intro i p hi
  simp[netR]at hi
theorem comp_netR:compB netR=true:=compB_iff.2 ⟨topOk_netR,fun e he=>by
 simp only[netR,List.mem_cons,List.not_mem_nil,or_false]at he
 rcases he with rfl|rfl<;>rfl⟩
def nmB(c:UInt8):ByteArray:=⟨#[c]⟩
def itNm(s:ByteArray):It:=⟨3,s,⟨0,0,by decide,by decide⟩,0,zR⟩
def itZn(s:ByteArray):It:=⟨1,s,⟨0,0,by decide,by decide⟩,0,zR⟩
def itSn(p:Pf):It:=⟨2,⟨#[]⟩,p,0,zR⟩
def nmL4:List ByteArray:=[nmB 97,nmB 98,nmB 99,nmB 100]
def nmAt(m:Nat):ByteArray:=nmL4.getD m ⟨#[]⟩
def cycG(n k:Nat):List Df:=(List.range k).map fun m=>⟨nmAt m,[itZn ⟨#[108,97,110]⟩,itNm (nmAt ((m+1)%n))]⟩
def cycS(n k:Nat):List Df:=(List.range k).map fun m=>⟨nmAt m,[itNm (nmAt ((m+1)%n))]⟩
def cycO(n j:Nat):List Df:=(cycG n n).set j ⟨nmAt j,[itSn pf1]⟩
theorem cyc_ok:∀n:Nat,n<5->1<=n->dfsC (cycG n n) true=true/\dfsC (cycS n n) false=true:=by decide+kernel
theorem cyo_ok:∀n:Nat,n<5->∀j:Nat,j<n->dfsC (cycO n j) true=true:=by decide+kernel
theorem cyc_err:∀n:Nat,n<5->∀m:Nat,m<n->(grpE netR (cycG n n) (nmAt m)).1=8/\(svcF (cycS n n) (nmAt m)).1=8:=by decide+kernel
theorem cyo_err:∀n:Nat,n<5->∀j:Nat,j<n->∀m:Nat,m<n->(grpE netR (cycO n j) (nmAt m)).1=0/\pf1.rg∈(grpE netR (cycO n j) (nmAt m)).2:=by decide+kernel
def sanG:List Df:=[⟨nmB 97,[itNm (nmB 98)]⟩,⟨nmB 98,[itZn ⟨#[100,109,122]⟩]⟩,⟨nmB 99,[itNm (nmB 99)]⟩]
theorem san_ok:NtOk (defI sanG []):=defI_ok (by decide+kernel) (by decide+kernel)
theorem san_a:grpE netR sanG (nmB 97)=(0,[pf4.rg]):=by decide+kernel
theorem san_b:grpE netR sanG (nmB 98)=(0,[pf4.rg]):=by decide+kernel
theorem san_c:(grpE netR sanG (nmB 99)).1=8:=by decide+kernel
theorem cwSub0{K:KT}(hK:K (encP pf0) []):ACall Tryz.prog 31 [.v (.int .i64 0)] [] K:=cnSub 0 (by decide) hK
theorem cwSub1{K:KT}(hK:K (encP pf1) []):ACall Tryz.prog 31 [.v (.int .i64 1)] [] K:=cnSub 1 (by decide) hK
theorem cwSub4{K:KT}(hK:K (encP pf4) []):ACall Tryz.prog 31 [.v (.int .i64 4)] [] K:=cnSub 4 (by decide) hK
theorem cwNet{K:KT}(hK:K (encT netR) []):ACall Tryz.prog 30 [] [] K:=by
 refine ACall.weak (ofl17Net rfl rfl ?_)
 (repeat' ((conv=>whnf);first|(refine cwSub0 ?_)|(refine cwSub4 ?_)|refine zG ?_|apply zA|(apply zI;intro h)|exact zT));(all_goals conv=>whnf)
 exact⟨encT netR,Weak.agg (ys:=[_,.lst [],_,.lst [],_]) ⟨Weak.refl,Weak.nils,Weak.refl,Weak.nils,Weak.refl,trivial⟩,hK⟩
theorem bnd_def{g s:List Df}(h1:g.length<=4)(h2:s.length<=4)(h3:∀x,x∈g->x.items.length<=4)(h4:∀x,x∈s->x.items.length<=4):Bnd (defI g s):=by
 have sum:∀l:List Df,(∀x,x∈l->x.items.length<=4)->itsN l<=4*l.length:=by
  intro l
  induction l with
  |nil=>intro _;exact Nat.zero_le _
  |cons x l ih=>
   intro h
   have:=ih fun y hy=>h y (List.mem_cons_of_mem _ hy)
   have:=h x (by simp)
   unfold itsN at*
   simp only[List.map_cons,List.sum_cons,List.length_cons]
   omega
 have e1:=sum g h3
 have e2:=sum s h4
 exact⟨by show g.length<=999;omega,by show s.length<=999;omega,Nat.zero_le _,Nat.zero_le _,Nat.zero_le _,Nat.zero_le _,fun x hx=>by have:=h3 x hx;omega,fun x hx=>by have:=h4 x hx;omega,fun x hx=>by simp[defI]at hx,by show itsN g<=70;omega,by show itsN s<=70000;omega⟩
theorem netR_len:netR.edges.length<1000000:=by decide
theorem grp_netR{g s:List Df}(h:NtOk (defI g s))(hb:Bnd (defI g s))(nm:ByteArray){K:KT}(hK:K (.tup [encRs (grpP netR (defI g s) nm).1,.v (.int .i64 (grpP netR (defI g s) nm).2)]) []):ACall Tryz.prog 13 [encT netR,encNt (defI g s),.v (.string nm)] [] K:=
 crGroup netR netR_len (defI g s) hb nm (by rw[grpV,if_pos ⟨comp_netR,ntB_true h⟩];exact hK)
theorem svc_netR{g s:List Df}(h:NtOk (defI g s))(hb:Bnd (defI g s))(nm:ByteArray){K:KT}(hK:K (.tup [encXs (svcP (defI g s) nm).1,.v (.int .i64 (svcP (defI g s) nm).2)]) []):ACall Tryz.prog 24 [encNt (defI g s),.v (.string nm)] [] K:=
 crService (defI g s) hb nm (by rw[svcV,if_pos (ntB_true h)];exact hK)
theorem san_bnd:Bnd (defI sanG []):=bnd_def (by decide) (by decide) (fun x hx=>by
 simp only[sanG,List.mem_cons,List.not_mem_nil,or_false]at hx
 rcases hx with rfl|rfl|rfl<;>decide) (fun x hx=>by simp at hx)
theorem canO_one{r:Rg}(h:r.lo<=r.hi):canO (has [r])=[r]:=canO_eq ⟨fun s hs=>by rw[List.mem_singleton.1 hs];exact h,List.pairwise_singleton ..⟩ fun v=>rfl
theorem sanP_a:grpP netR (defI sanG []) (nmB 97)=([pf4.rg],0):=by
 have e:grpE netR (defI sanG []).grps (nmB 97)=(0,[pf4.rg]):=san_a
 rw[grpP,e,if_pos rfl,canO_one (by decide)]
theorem sanP_b:grpP netR (defI sanG []) (nmB 98)=([pf4.rg],0):=by
 have e:grpE netR (defI sanG []).grps (nmB 98)=(0,[pf4.rg]):=san_b
 rw[grpP,e,if_pos rfl,canO_one (by decide)]
theorem sanP_c:grpP netR (defI sanG []) (nmB 99)=([],8):=by
 have e:(grpE netR (defI sanG []).grps (nmB 99)).1=8:=san_c
 rw[grpP,e,if_neg (by decide)]
theorem san_chk:chkP netR (defI sanG [])=8:=by
 have e:fstE (fun d:Df=>(grpP netR (defI sanG []) d.name).2) (defI sanG []).grps=8:=by
  show fstE (fun d:Df=>(grpP netR (defI sanG []) d.name).2) [⟨nmB 97,[itNm (nmB 98)]⟩,⟨nmB 98,[itZn ⟨#[100,109,122]⟩]⟩,⟨nmB 99,[itNm (nmB 99)]⟩]=8
  rw[fstE_cons,if_neg (by simp only[sanP_a];decide),fstE_cons,if_neg (by simp only[sanP_b];decide),fstE_cons,if_pos (by simp only[sanP_c];decide)]
  simp only[sanP_c]
 rw[chkP_eq,e,if_pos (by decide)]
theorem cwSane{K:KT}(hK:K (.sb true) []):ACall Tryz.prog 19 [] [] K:=by
 have ga:∀{K:KT},K (.tup [encRs [pf4.rg],.v (.int .i64 0)]) []->ACall Tryz.prog 13 [encT netR,encNt (defI sanG []),.v (.string (nmB 97))] [] K:=fun h=>grp_netR san_ok san_bnd _ (by rw[sanP_a];exact h)
 have gc:∀{K:KT},K (.tup [.lst [],.v (.int .i64 8)]) []->ACall Tryz.prog 13 [encT netR,encNt (defI sanG []),.v (.string (nmB 99))] [] K:=fun h=>grp_netR san_ok san_bnd _ (by rw[sanP_c];exact h)
 have se:∀{K:KT},K (.tup [encXs initS,.v (.int .i64 0)]) []->ACall Tryz.prog 24 [encNt (defI sanG []),.v (.string ⟨#[]⟩)] [] K:=fun h=>svc_netR san_ok san_bnd _ (by rw[svcP,if_pos (by rw[sEq_data];rfl)];exact h)
 have ch:∀{K:KT},K (.v (.int .i64 8)) []->ACall Tryz.prog 47 [encT netR,encNt (defI sanG [])] [] K:=fun h=>crCheck netR netR_len (by decide) _ san_bnd (by rw[chkV,if_pos ⟨comp_netR,ntB_true san_ok⟩,san_chk];exact h)
 refine ACall.bool (ofl17San rfl rfl ?_)
 (repeat' ((conv=>whnf);first|(with_reducible refine cwNet ?_)|(refine ga ?_)|(refine gc ?_)|(refine se ?_)|(refine ch ?_)|(refine in_c (by decide) ?_)|(refine Ix.intro rfl ?_)|refine zG ?_|apply zA|(apply zI;intro h)|exact zT));(all_goals conv=>whnf)
 all_goals first
  |exact fin_s hK rfl
  |exact absurd rfl h
  |exact absurd (by decide) h
theorem cycG_succ(n k:Nat):cycG n (k+1)=cycG n k++[⟨nmAt k,[itZn ⟨#[108,97,110]⟩,itNm (nmAt ((k+1)%n))]⟩]:=by
 rw[cycG,List.range_succ,List.map_append,<-cycG];rfl
theorem cycS_succ(n k:Nat):cycS n (k+1)=cycS n k++[⟨nmAt k,[itNm (nmAt ((k+1)%n))]⟩]:=by
 rw[cycS,List.range_succ,List.map_append,<-cycS];rfl
theorem cycG_len(n k:Nat):(cycG n k).length=k:=by rw[cycG,List.length_map,List.length_range]
theorem cycS_len(n k:Nat):(cycS n k).length=k:=by rw[cycS,List.length_map,List.length_range]
theorem nmL4_at{k:Nat}(h:k<4):nmL4[k]? =some (nmAt k):=by
 have:∀k:Fin 4,nmL4[k.val]? =some (nmAt k.val):=by decide+kernel
 exact this ⟨k,h⟩
theorem nmL4_at0{k:Nat}(h:k<4):nmL4[0+k]? =some (nmAt k):=by rw[Nat.zero_add];exact nmL4_at h
theorem cyc_bnd{n:Nat}(hn:n<=4):Bnd (defI (cycG n n) (cycS n n)):=bnd_def (by rw[cycG_len];omega) (by rw[cycS_len];omega) (fun x hx=>by
 obtain⟨m,_,rfl⟩:=List.mem_map.1 hx;exact Nat.le_of_ble_eq_true rfl) fun x hx=>by
 obtain⟨m,_,rfl⟩:=List.mem_map.1 hx;exact Nat.le_of_ble_eq_true rfl
theorem cyo_bnd{n j:Nat}(hn:n<=4):Bnd (defI (cycO n j) (cycS n n)):=bnd_def (by rw[cycO,List.length_set,cycG_len];omega) (by rw[cycS_len];omega) (fun x hx=>by
 rcases List.mem_or_eq_of_mem_set hx with hx|rfl
 ·obtain⟨m,_,rfl⟩:=List.mem_map.1 hx;exact Nat.le_of_ble_eq_true rfl
 ·exact Nat.le_of_ble_eq_true rfl) fun x hx=>by
 obtain⟨m,_,rfl⟩:=List.mem_map.1 hx;exact Nat.le_of_ble_eq_true rfl
theorem nm_ne:∀m:Nat,m<4->sEqD (nmAt m) ⟨#[]⟩=false:=by decide+kernel
theorem cCycles(raw:List Int)(hr:raw.length<=9223372036854775807):ACall Tryz.prog 6 [.lst (raw.map encI)] [] Yes:=by
 refine ofl17Cyc rfl rfl ?_
 (repeat' ((conv=>whnf);first|(with_reducible refine c9 raw ?_)|(refine nNext raw 0 4 (by decide) (Nat.zero_le _) hr fun m1 p1 hm1 hp1=>?_)|(with_reducible refine wr_i64 rfl (by omega) (by omega) ?_)|(refine sl_full (by rfl) ?_)|refine zG ?_|apply zA|(apply zI;intro h)|exact zT));(all_goals conv=>whnf)
 obtain⟨n,hn⟩:∃n,n=m1+1:=⟨_,rfl⟩
 have hn4:n<=4:=by omega
 have hnI:1+(m1:Int)=(n:Int):=by omega
 rw[hnI]
 refine Lp.intro Nat (fun m=>⟨5,[(2,.box [.os 3 2 0 m,.os 4 2 0 m,.nils,.nils,.nils,.nils]),(3,.arr 2 ((cycG n m).map encDf)),(4,.arr 2 ((cycS n m).map encDf)),(0,tapeO raw p1),(1,.arr 1 (nmL4.map encSt))],[(3,.op 0 0),(4,.os 1 1 0 4),(5,.v (.int .i64 n)),(6,.op 2 0),(7,.v (.int .i64 m))]⟩) (fun m=>m<=n) (fun m=>n-m) 0 (Nat.zero_le _) ?_ ?_
 ·(exact leA)
 intro m hm
 have hgl:=cycG_len n m
 have hsl:=cycS_len n m
 rcases Nat.lt_or_ge m n with hml|hml
 ·have hmod:(m+1)%n<n:=Nat.mod_lt _ (by omega)
  have hI:((m:Int)+1).tmod (n:Int)=(((m+1)%n:Nat):Int):=by rw[Int.tmod_eq_emod_of_nonneg (by omega)];exact(Int.natCast_emod (m+1) n).symm
  have a1:nmL4[0+m]? =some (nmAt m):=by rw[Nat.zero_add];exact nmL4_at (by omega)
  have a2:nmL4[0+(m+1)%n]? =some (nmAt ((m+1)%n)):=by rw[Nat.zero_add];exact nmL4_at (by omega)
  (repeat' ((conv=>whnf);first|(with_reducible first|refine in_nat (by omega) ?_|refine In.intro ((m+1)%n) hI (by omega) ?_|refine ix_map a1 ?_|refine ix_map a2 ?_|refine Ob.intro (by omega) ?_|refine sl_full (by rw[List.length_map];exact hgl) ?_|refine sl_full (by rw[List.length_map];exact hsl) ?_)|refine zG ?_|apply zA|(apply zI;intro h)|exact zT));(all_goals conv=>whnf)
  all_goals
   refine⟨m+1,hml,by omega,?_⟩
   rw[cycG_succ,cycS_succ,List.map_append,List.map_append,Int.natCast_add,Int.natCast_one]
   (exact leA)
 ·have hme:m=n:=by omega
  subst hme
  have hok:=cyc_ok m (by omega) (by omega)
  have hnt:NtOk (defI (cycG m m) (cycS m m)):=defI_ok hok.1 hok.2
  have hG:∀(k:Nat),k<m->∀{K:KT},K (.tup [.lst [],.v (.int .i64 8)]) []->ACall Tryz.prog 13 [encT netR,encNt (defI (cycG m m) (cycS m m)),.v (.string (nmAt k))] [] K:=fun k hk K h=>
   grp_netR hnt (cyc_bnd hn4) _ (by
    have e:=(cyc_err m (by omega) k hk).1
    rw[grpP,show(defI (cycG m m) (cycS m m)).grps=cycG m m from rfl,e,if_neg (by decide)];exact h)
  have hS:∀(k:Nat),k<m->∀{K:KT},K (.tup [.lst [],.v (.int .i64 8)]) []->ACall Tryz.prog 24 [encNt (defI (cycG m m) (cycS m m)),.v (.string (nmAt k))] [] K:=fun k hk K h=>
   svc_netR hnt (cyc_bnd hn4) _ (by
    have e:=(cyc_err m (by omega) k hk).2
    have hne:¬sEq (nmAt k) ⟨#[]⟩=true:=by rw[sEq_data];have:=nm_ne k (by omega);unfold sEqD at this;rw[this];decide
    rw[svcP,if_neg hne,show(defI (cycG m m) (cycS m m)).svcs=cycS m m from rfl,e,if_pos (by decide)];exact h)
  have hO:∀(j k:Nat),j<m->k<m->∀{K:KT},(∀c,has c pf1.addr=true->c.length<100000->K (.tup [encRs c,.v (.int .i64 0)]) [])->ACall Tryz.prog 13 [encT netR,encNt (defI (cycO m j) (cycS m m)),.v (.string (nmAt k))] [] K:=fun j k hj hk K h=>by
   have e:=cyo_err m (by omega) j hj k hk
   have hnt2:NtOk (defI (cycO m j) (cycS m m)):=defI_ok (cyo_ok m (by omega) j hj) hok.2
   have hl:=grpP_len comp_netR (cyo_bnd (n:=m) (j:=j) hn4) (nmAt k)
   refine grp_netR hnt2 (cyo_bnd hn4) _ ?_
   have e1:grpP netR (defI (cycO m j) (cycS m m)) (nmAt k)=(canO (has (grpE netR (cycO m j) (nmAt k)).2),0):=by
    rw[grpP,show(defI (cycO m j) (cycS m m)).grps=cycO m j from rfl,if_pos e.1]
   rw[e1]at hl⊢
   refine h _ ?_ (by show(canO _).length<_;simp only at hl;omega)
   rw[(canO_has _).2]
   exact has_iff.2 ⟨pf1.rg,e.2,by decide,by decide⟩
  have hset:∀(j:Nat),((cycG m m).map encDf).set (0+j) (.agg [.v (.string (nmAt j)),.lst [encIt (itSn pf1)]])=(cycO m j).map encDf:=fun j=>by
   rw[Nat.zero_add,cycO,List.map_set];rfl
  have hat:∀(j:Nat),j<m->(cycG m m)[0+j]? =some ⟨nmAt j,[itZn ⟨#[108,97,110]⟩,itNm (nmAt ((j+1)%m))]⟩:=fun j hj=>by
   rw[Nat.zero_add,cycG,List.getElem?_map,List.getElem?_range hj];rfl
  have hO2:∀(j k:Nat),j<m->k<m->∀{K:KT},(∀r c,has (r::c) pf1.addr=true->(r::c).length<100000->K (.tup [encRs (r::c),.v (.int .i64 0)]) [])->ACall Tryz.prog 13 [encT netR,.agg [.lst (((cycG m m).map encDf).set (0+j) (.agg [.v (.string (nmAt j)),.lst [encIt (itSn pf1)]])),.lst ((cycS m m).map encDf),.lst [],.lst [],.lst [],.lst []],.v (.string (nmAt k))] [] K:=fun j k hj hk K h=>by
   rw[hset]
   refine hO j k hj hk fun c h1 h2=>?_
   cases c with
   |nil=>rw[has_nil]at h1;cases h1
   |cons r c=>exact h r c h1 h2
  (repeat' ((conv=>whnf);first|(with_reducible first|refine nNext raw _ _ (by omega) (by with_reducible assumption) hr fun k p2 hk hp2=>?_|refine in_nat (by omega) ?_|refine ix_map (nmL4_at0 (by omega)) ?_|refine cwNet ?_|refine sl_full (by rw[List.length_map];exact hgl) ?_|refine sl_full (by rw[List.length_map];exact hsl) ?_)|(refine hG _ (by omega) ?_)|(refine hS _ (by omega) ?_)|(refine cwSub1 ?_)|(with_reducible refine ix_map (hat _ (by omega)) ?_)|(refine hO2 _ _ (by omega) (by omega) fun r c hc1 hc2=>?_)|(with_reducible first|refine c34 (r::c) pf1.addr (by omega) ?_|refine cwSane ?_)|refine zG ?_|apply zA|(apply zI;intro h)|exact zT));(all_goals conv=>whnf)
  all_goals first
   |exact .inl rfl
   |exact .inr rfl
   |(rw[hc1]at h;cases h;done)
   |trace_state
open Go Go.Vm Go.ChangeShapes Go.WideShapes Go.ChangeAt Go.RowKit
theorem resolveCycles_lifted(os:Os)(started:os.Started)(H:Type)(enc:TypeId×Value->H):
  ReturnsInHanded {} Tryz.checked os 6 .any (fun w args=>(Rows.resolveCyclesSpec.pre enc Tryz.prog Tryz.f6 [] false w args/\laidMetH Tryz.prog laid3 w)/\sizedMet enc Tryz.prog Tryz.f6 (OpenSpec.ofChange Rows.resolveCyclesSpec) false w args)
   (Rows.resolveCyclesSpec.post enc Tryz.prog Tryz.f6 false true false false):=by
 refine returnsInHanded_of_change_and (C:=Tryz.checked) (X:=fun w _=>laidMetH Tryz.prog laid3 w) (fun _ _ _ hh h=>h.of_heap hh) ownNone started (by kernel_rfl) Tryz.func6
  (ChangeSpec.witness_shaped (enc:=enc) (C:=Tryz.checked) (os:=os) (X:=fun w _=>laidMetH Tryz.prog laid3 w) false (World.doorLaid Tryz.prog 400 os) #[.slice none 0 0] 8 rfl (World.shaped_of_RefB (by kernel_rfl) (by kernel_rfl)) (by kernel_rfl) (by kernel_rfl) (by kernel_rfl) (door_met os _)) ?_
 intro W base args ds gs before hval0 hW _ _ hL _
 have hval:∀(j:Nat) t v,Tryz.f6.params[j]? =some t->args[j]? =some v->Value.okWide Tryz.prog W .any base t v:=hval0
 refine law_contract (P:=Tryz.prog) (t:=4) (d:=6) laidOut (by kernel_rfl) (by kernel_rfl) rfl rfl (by kernel_rfl) (fun ds hds=>?_) (fun xs hxs=>?_) (glob_of hL) hval hW
 ·have hds:ds.length=1:=hds.trans (show Tryz.f6.params.size=1 by kernel_rfl)
  match ds,hds with
  |[d0],_=>rfl
 ·match xs,hxs with
  |[a0],⟨h0,_⟩=>
   obtain⟨raw0,rfl,hr0⟩:=ty_is (d:=4) h0
   exact cCycles raw0 hr0
theorem resolveCycles_row:Rows.ResolveCyclesSaid:=
 OpenClaim.holds_of_wide 6 Tryz.f6 rfl rfl rfl rfl rfl rfl rfl ⟨rfl,rfl,rfl,rfl,rfl⟩ rfl rfl rfl rfl rfl (by kernel_rfl) Tryz.func6 (by kernel_rfl)
  (of_decide_eq_true (by kernel_rfl)) (by unfold Func.isWrapper;first|(rw[if_pos (by decide+kernel)];kernel_rfl)|(rw[if_neg (by decide+kernel)];exact⟨rfl,rfl⟩))
  (fun os started H enc _=>resolveCycles_lifted os started H enc)
theorem resolveCycles_holds:Rows.ResolveCyclesCardSaid:=
 Claim7.holds_tied_plain_at .later [] [.data,.widerDeep] true Rows.resolveCyclesCard.stood.harness false
  resolveCycles_row (fun _ h=>by cases h) (by kernel_rfl) (fun _ h=>by cases h) resolveCycles_row_tie rfl ⟨rfl,rfl⟩ (by kernel_rfl) rfl
  (fun f fn hf hfn=>by
   obtain rfl:f=6:=Option.some.inj ((show Tryz.prog.funcNamed "netsegment/nsglaw17.ResolveCycles"=some 6 by kernel_rfl).symm.trans hf)|>.symm
   obtain rfl:fn=Tryz.f6:=(Option.some.inj (Tryz.func6.symm.trans hfn)).symm
   exact⟨by kernel_rfl,fun j t ht=>wants_none (ts:=Tryz.f6.params.toList) (by kernel_rfl) (List.mem_of_getElem? (by rw[Array.getElem?_toList];exact ht))⟩)
  (by kernel_rfl)
#print axioms resolveCycles_holds
def atB(s:ByteArray)(c:Int)(i:Nat):Bool:=match s[i]? with
 |some b=>decide ((b.toNat:Int)=c)
 |none=>true
def prt(s:ByteArray)(c:Int):Nat->List ByteArray×Nat
 |0=>([],0)
 |i+1=>if atB s c i=true then((prt s c i).1++[s.extract (prt s c i).2 i],i+1)else prt s c i
theorem prt_le(s:ByteArray)(c:Int):∀i,(prt s c i).2<=i/\(prt s c i).1.length<=i
 |0=>⟨Nat.le_refl _,Nat.le_refl _⟩
 |i+1=>by
  have:=prt_le s c i
  rw[prt]
  split
  ·simp only[List.length_append,List.length_cons,List.length_nil];omega
  ·omega
theorem at_end(s:ByteArray)(c:Int):atB s c s.size=true:=by rw[atB,getElem?_neg s s.size (Nat.lt_irrefl _)]
theorem prt_end(s:ByteArray)(c:Int):(prt s c (s.size+1)).1=(prt s c s.size).1++[s.extract (prt s c s.size).2 s.size]:=by
 rw[prt,if_pos (at_end s c)]
def prtL(s:ByteArray)(c:Int):List ByteArray:=(prt s c (s.size+1)).1
theorem prtL_ne(s:ByteArray)(c:Int):prtL s c≠[]:=by rw[prtL,prt_end];simp
theorem djParts(s:ByteArray)(c:Int)(hs:s.size<=1000){K:KT}(hK:K (.lst ((prtL s c).map encSt)) []):ACall Tryz.prog 172 [.v (.string s),.v (.int .u8 c)] [] K:=by
 refine ofq1Parts rfl rfl ?_
 (repeat' ((conv=>whnf);first|refine zG ?_|apply zA|(apply zI;intro h)|exact zT));(all_goals conv=>whnf)
 refine Lp.intro (List ByteArray×Nat×Nat) (fun g=>⟨1,[(0,.arr 1 (g.1.map encSt))],[(0,.v (.string s)),(1,.v (.int .u8 c)),(5,.os 0 1 0 g.1.length),(6,.v (.int .i64 g.2.1)),(7,.v (.int .i64 g.2.2))]⟩)
  (fun g=>g.2.2<=s.size+1/\prt s c g.2.2=(g.1,g.2.1)) (fun g=>s.size+1-g.2.2) ([],0,0) ⟨by simp only;omega,rfl⟩ ?_ ?_
 ·(exact leA)
 rintro⟨l,a,i⟩ ⟨h1,hg⟩
 simp only at h1 hg⊢
 have hle:=prt_le s c i
 rw[hg]at hle
 obtain⟨h2,h3⟩:=hle
 simp only at h2 h3
 rcases Nat.lt_or_ge i (s.size+1)with hl|hl
 ·have hstep:prt s c (i+1)=if atB s c i=true then(l++[s.extract a i],i+1)else(l,a):=by rw[prt,hg]
  (repeat' ((conv=>whnf);first|(with_reducible first|refine in_nat (by omega) ?_|refine ix_ba (by omega) fun b hb=>?_|refine Sb.intro a i rfl rfl (by omega) (by omega) ?_)|refine zG ?_|apply zA|(apply zI;intro h)|exact zT));(all_goals conv=>whnf)
  all_goals first
   |(have hno:atB s c i=false:=by rw[atB,hb];exact decide_eq_false h
     rw[hno,if_neg (by decide)]at hstep
     refine⟨(l,a,i+1),⟨by simp only;omega,hstep⟩,by simp only;omega,?_⟩
     rw[show(((l,a,i+1):List ByteArray×Nat×Nat).2.2:Int)=(i:Int)+1 from by simp only;omega]
     (exact leA)
     done)
   |(have hyes:atB s c i=true:=by
      first
       |(rw[atB,hb];exact decide_eq_true h)
       |(rw[show i=s.size by omega];exact at_end s c)
     rw[hyes,if_pos rfl]at hstep
     refine⟨(l++[s.extract a i],i+1,i+1),⟨by simp only;omega,hstep⟩,by simp only;omega,?_⟩
     simp only[List.map_append,List.length_append,List.map_cons,List.map_nil,List.length_cons,List.length_nil,Int.natCast_add,Int.natCast_one]
     (exact leA)
     done)
   |(exfalso;omega)
   |trace_state
 ·(repeat' ((conv=>whnf);first|(with_reducible refine sl_full (List.length_map ..) ?_)|refine zG ?_|apply zA|(apply zI;intro h)|exact zT));(all_goals conv=>whnf)
  rw[prtL,show s.size+1=i by omega,hg]at hK
  exact hK
noncomputable def dayIx(s:ByteArray):Int:=firstIx (fun x=>sEq x s) dayL
theorem djDay(s:ByteArray){K:KT}(hK:K (.v (.int .i64 (dayIx s))) []):ACall Tryz.prog 173 [.v (.string s)] [] K:=by
 unfold dayIx at hK
 refine ofq9Day rfl rfl ?_
 (repeat' ((conv=>whnf);first|(with_reducible refine cqDays ?_)|refine zG ?_|apply zA|(apply zI;intro h)|exact zT));(all_goals conv=>whnf)
 refine Lp.intro Nat (fun i=>⟨0,[],[(0,.v (.string s)),(3,.lst (dayL.map encSt)),(4,.v (.int .i64 i))]⟩) (fun i=>i<=dayL.length/\∀(j:Nat) y,j<i->dayL[j]? =some y->sEq y s=false) (fun i=>dayL.length-i) 0 ⟨Nat.zero_le _,fun i y hi=>absurd hi (Nat.not_lt_zero _)⟩ ?_ ?_
 ·(exact leA)
 intro i ⟨hi,hinv⟩
 have h7:dayL.length=7:=rfl
 rcases Nat.lt_or_ge i dayL.length with hl|hl
 ·obtain⟨x,hx⟩:=gex hl
  (repeat' ((conv=>whnf);first|(with_reducible first|refine in_map hl ?_|refine ix_map hx ?_)|refine zG ?_|apply zA|(apply zI;intro h)|exact zT));(all_goals conv=>whnf)
  ·rw[firstIx_at (p:=fun x=>sEq x s) hx (show sEq x s=true from h) hinv]at hK
   exact hK
  ·refine⟨i+1,⟨hl,before_succ (p:=fun x:ByteArray=>sEq x s) hx h hinv⟩,by omega,?_⟩
   rw[Int.natCast_add,Int.natCast_one]
   (exact leA)
 ·(repeat' ((conv=>whnf);first|refine zG ?_|apply zA|(apply zI;intro h)|exact zT));(all_goals conv=>whnf)
  rw[firstIx_none (p:=fun x=>sEq x s) (before_all hl hinv)]at hK
  exact hK
structure DayW (s:ByteArray):Prop where
 size:s.size<=1000
 two:(prtL s 45).length<=2
 ok:∀x y,(prtL s 45)[0]? =some x->(prtL s 45)[(prtL s 45).length-1]? =some y->0<=dayIx x/\dayIx x<=dayIx y/\dayIx y<=6/\dayIx y<=dayIx x+4
theorem djSpan(s:ByteArray)(hs:DayW s){K:KT}(hK:∀a b:Int,0<=a->a<=b->b<=6->b<=a+4->K (.tup [.v (.int .i64 a),.v (.int .i64 b)]) []):ACall Tryz.prog 124 [.v (.string s)] [] K:=by
 have h2:=hs.two
 have hok:=hs.ok
 have hpos:=List.length_pos_iff.2 (prtL_ne s 45)
 refine ofq9Span rfl rfl ?_
 have hp:=fun {K} h=>@djParts s 45 hs.size K h
 generalize prtL s 45=l at*
 have hm:((l.length:Nat):Int)-1=((l.length-1:Nat):Int):=by omega
 obtain⟨x,hx⟩:=gex hpos
 obtain⟨y,hy⟩:∃y,l[l.length-1]? =some y:=⟨_,List.getElem?_eq_getElem (by omega)⟩
 obtain⟨q0,q1,q2,q3⟩:=hok x y hx hy
 (repeat' ((conv=>whnf);first|(with_reducible refine hp ?_)|(refine In.intro 0 rfl (by rw[List.length_map];omega) ?_)|(with_reducible first|refine wr_i64 (r:=((l.length-1:Nat):Int)) (by rw[List.length_map];omega) (by omega) (by omega) ?_|refine in_map (by omega) ?_|refine ix_map hx ?_|refine ix_map hy ?_|refine djDay _ ?_)|refine zG ?_|apply zA|(apply zI;intro h)|exact zT));(all_goals conv=>whnf)
 all_goals first
  |exact hK _ _ q0 q1 q2 q3
  |(exfalso;simp only[List.length_map]at*;omega)
  |trace_state
def dayD(s:ByteArray):Int:=firstIx (fun x=>sEqD x s) dayL
theorem day_eq(s:ByteArray):dayIx s=dayD s:=by
 unfold dayIx dayD
 congr 1
 funext x
 rw[sEq_data];rfl
theorem winL_days:∀s,s∈winL->DayW s:=by
 have h:∀s,s∈winL->s.size<=1000/\(prtL s 45).length<=2/\(0<=dayD ((prtL s 45).getD 0 s)/\dayD ((prtL s 45).getD 0 s)<=dayD ((prtL s 45).getD ((prtL s 45).length-1) s)/\dayD ((prtL s 45).getD ((prtL s 45).length-1) s)<=6/\dayD ((prtL s 45).getD ((prtL s 45).length-1) s)<=dayD ((prtL s 45).getD 0 s)+4):=by decide+kernel
 intro s hs
 obtain⟨h1,h2,h3⟩:=h s hs
 refine⟨h1,h2,fun x y hx hy=>?_⟩
 rw[List.getD,hx,List.getD,hy]at h3
 rw[day_eq,day_eq]
 exact h3
theorem djTimes(s:ByteArray)(hs:s.size<=1000){K:KT}(hK:∀a b:Int,(a= -1\/(0<=a/\a<b))->b<=1440-> -1<=b->K (.tup [.v (.int .i64 a),.v (.int .i64 b)]) []):ACall Tryz.prog 125 [.v (.string s)] [] K:=by
 refine ofq9Times rfl rfl ?_
 (repeat' ((conv=>whnf);first|(with_reducible refine cqParts s _ hs fun l hl hn=>?_)|(refine In.intro 0 rfl (by omega) ?_)|(refine In.intro 1 rfl (by omega) ?_)|(with_reducible first|refine ix_map_any (by simp only[List.length_map]at*;omega) fun c hc=>?_|refine cqClock _ fun r r0 r1=>?_)|refine zG ?_|apply zA|(apply zI;intro h)|exact zT));(all_goals conv=>whnf)
 all_goals first
  |exact hK _ _ (by omega) (by omega) (by omega)
  |trace_state
end Go.Proofs.YtahhamfngafmcaaGreatDoor
