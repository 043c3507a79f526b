/- The program's resolve: groups, services. -/
import Derived.Test.YtbdikofefjljoaaGreatDoorK30
set_option linter.unusedVariables false
set_option linter.unusedSimpArgs false
set_option maxRecDepth 100000
set_option maxHeartbeats 4000000
namespace Go.Proofs.YtbdikofefjljoaaGreatDoor
open Go Go.Vm
theorem setBlen{s:List Bx}(h:setB s=true):s.length<1000000000:=by have:=(setB_pset h).len;omega
theorem comp_edges{t:Tp}(hc:compB t=true):t.edges.length<=12:=(compB_iff.1 hc).1.e1
theorem crGrp(t:Tp)(hc:compB t=true)(i:Nt)(hb:Bnd i)(nm:ByteArray){K:KT}(hK:K (.tup [encRs (grpP t i nm).1,.v (.int .i64 (grpP t i nm).2)]) []):ACall Tryz.prog 193 [encT t,encNt i,.v (.string nm)] [] K:=by
 have h12:=comp_edges hc
 have hits:=hb.its
 refine cwGrp t zo i hb.g hb.gi nm (fun h=>?_) (fun h=>?_) fun h c hc hh hl=>?_
 ·have:=grpE_len (l:=i.grps) h12 h;omega
 ·rw[grpP,if_neg h]at hK;exact hK
 ·rw[grpP,if_pos h,canO_eq hc hh]at hK;exact hK
theorem grpP_len{t:Tp}(hc:compB t=true){i:Nt}(hb:Bnd i)(nm:ByteArray):(grpP t i nm).1.length<=860:=by
 have h12:=comp_edges hc
 have hits:=hb.its
 unfold grpP
 split
 ·rename_i h
  have:=grpE_len (l:=i.grps) h12 h
  have:=canO_len (grpE t i.grps nm).2
  simp only;omega
 ·exact Nat.zero_le _
theorem cwStS(l:List Df)(hl:l.length<=999)(hit:∀d,d∈l->d.items.length<=999)(nm:ByteArray){K:KT}
  (hK:K (.v (.int .i64 (svcF l nm).1)) [itO 2 (svcF l nm).2.length,.box [],arI (svcF l nm).2]):
  ACall Tryz.prog 263 [.lst (l.map encDf),.v (.string nm),.fn (.func 266) [] [.op 0 0]] [itO 1 0,.arr 7 []] K:=by
 refine ofwStS rfl rfl ?_
 unfold svcF at hK
 have hc:∀{K:KT},K (.v (.int .i64 (fol visS l (l.length+1) [] nm [] []).1)) [fsO l,.map (nameM l []),.map (nameM l (fol visS l (l.length+1) [] nm [] []).2.1),itO 5 (fol visS l (l.length+1) [] nm [] []).2.2.length,.box [],arI (fol visS l (l.length+1) [] nm [] []).2.2]->
   ACall Tryz.prog 318 [.op 0 0,.v (.string nm)] [fsO l,.map (fun _=>none),.map (fun _=>none),itO 4 0,.arr 7 []] K:=fun {K} h=>by
  rw[nameM_nil l]
  exact cwFos l hl hit (l.length+1) [] nm [] [] (fine_nil l) zx zx h
 (repeat' ((conv=>whnf);first|(with_reducible refine hc ?_)|refine zG ?_|apply zA|(apply zI;intro h)|exact zT));(all_goals conv=>whnf)
 exact hK
theorem svcF_len{l:List Df}{nm:ByteArray}(h:(svcF l nm).1=0):(svcF l nm).2.length<=itsN l:=by
 unfold svcF at h⊢
 have:=fol_all visS List.length 1 (fun x s _=>by simp[visS]) l nm [] h
 simp only[List.length_nil]at this
 simp only;omega
theorem svcGo_drop{x:It}{r:List It}{s:List Bx}:svcGo (x::r) s=if(combP anB initS [hdrX x]).2≠0 then([],(combP anB initS [hdrX x]).2)else if(combP orB s (combP anB initS [hdrX x]).1).2≠0 then([],(combP orB s (combP anB initS [hdrX x]).1).2)else svcGo r (combP orB s (combP anB initS [hdrX x]).1).1:=rfl
theorem crSvc(i:Nt)(hb:Bnd i)(nm:ByteArray){K:KT}(hK:K (.tup [encXs (svcP i nm).1,.v (.int .i64 (svcP i nm).2)]) []):ACall Tryz.prog 194 [encNt i,.v (.string nm)] [] K:=by
 refine ACall.weak (ofwSvc rfl rfl ?_)
 unfold svcP at hK
 by_cases hnm:sEq nm ⟨#[]⟩=true
 ·rw[if_pos hnm]at hK
  have hnm2:(nm.toList==(⟨#[]⟩:ByteArray).toList)=true:=hnm
  (repeat' ((conv=>whnf);first|(with_reducible refine cxInit ?_)|refine zG ?_|apply zA|(apply zI;intro h)|exact zT));(all_goals conv=>whnf)
  exact⟨_,Weak.refl,hK⟩
 ·rw[if_neg hnm]at hK
  have hnm2:(nm.toList==(⟨#[]⟩:ByteArray).toList)=false:=by simpa[sEq]using hnm
  have hc:=fun {K} h=>@cwStS i.svcs hb.s hb.si nm K h
  have hlen:=svcF_len (l:=i.svcs) (nm:=nm)
  have hsn:=hb.sits
  generalize svcF i.svcs nm=q at*
  obtain⟨qe,its⟩:=q
  simp only at hK hc hlen
  (repeat' ((conv=>whnf);first|(with_reducible refine hc ?_)|refine zG ?_|apply zA|(apply zI;intro h)|exact zT));(all_goals conv=>whnf)
  ·rw[if_neg zo]at hK
   have hlen:=hlen h
   refine Lp.intro (Nat×List Bx) (fun g=>⟨4,[],[(8,encXs g.2),(25,.lst (its.map encIt)),(26,.v (.int .i64 (its.map encIt).length)),(27,.v (.int .i64 g.1))]⟩) (fun g=>g.1<=its.length/\setB g.2=true/\svcGo its []=svcGo (its.drop g.1) g.2) (fun g=>its.length-g.1) (0,[]) ⟨Nat.zero_le _,setB_nil,by rw[List.drop_zero]⟩ ?_ ?_
   ·(exact leA)
   rintro⟨k,s⟩ ⟨hk,hs,heq⟩
   simp only at hk hs heq⊢
   have hsl:=setBlen hs
   rcases Nat.lt_or_ge k its.length with hkl|hkl
   ·obtain⟨x,hx⟩:=gex hkl
    have hd:its.drop k=x::its.drop (k+1):=by
     rw[List.getElem?_eq_getElem hkl]at hx
     rw[<-Option.some.inj hx,<-List.drop_eq_getElem_cons hkl]
    rw[hd,svcGo_drop]at heq
    have hq:∀{K:KT},K (.tup [encXs (combP anB initS [hdrX x]).1,.v (.int .i64 (combP anB initS [hdrX x]).2)]) []->ACall Tryz.prog 76 [encXs initS,.lst [.agg [.v (.int .u32 fullB.r0.lo),.v (.int .u32 fullB.r0.hi),.v (.int .u32 fullB.r1.lo),.v (.int .u32 fullB.r1.hi),.v (.int .u32 (wu x.proto)),.v (.int .u32 (wu x.proto)),.v (.int .u32 fullB.r3.lo),.v (.int .u32 fullB.r3.hi),.v (.int .u32 x.ports.lo),.v (.int .u32 x.ports.hi)]]] [] K:=fun {K} h=>@cxInt initS [hdrX x] zd zx K h
    have hsA:=setB_combP anB initS [hdrX x]
    have hsB:=setB_combP orB s (combP anB initS [hdrX x]).1
    have hu:=fun {K} h=>@cxUn s (combP anB initS [hdrX x]).1 zo (by have:=setBlen hsA;omega) K h
    generalize combP orB s (combP anB initS [hdrX x]).1=B at*
    generalize combP anB initS [hdrX x]=A at*
    obtain⟨As,Ae⟩:=A
    obtain⟨Bs,Be⟩:=B
    simp only at heq hsA hsB hu hq
    (repeat' ((conv=>whnf);first|(with_reducible first|refine in_map hkl ?_|refine ix_map hx ?_|refine cxFull ?_)|(refine in_c zd ?_)|(with_reducible first|refine wr_u32_eq ?_|refine cxInit ?_)|(refine sl_full (by rfl) ?_)|(with_reducible first|refine hq ?_|refine hu ?_)|refine zG ?_|apply zA|(apply zI;intro h)|exact zT));(all_goals conv=>whnf)
    all_goals first
     |(rw[if_neg (fun hn=>hn zw),if_neg (fun hn=>hn zw)]at heq
       refine⟨(k+1,Bs),⟨hkl,hsB,heq⟩,by simp only;omega,?_⟩
       simp only[Int.natCast_add,Int.natCast_one]
       (exact leA)
       done)
     |(rw[if_pos h]at heq
       rw[heq]at hK
       exact⟨_,Weak.tup2 Weak.nils Weak.refl,hK⟩)
     |(rw[if_neg (fun hn=>hn zw),if_pos h]at heq
       rw[heq]at hK
       exact⟨_,Weak.tup2 Weak.nils Weak.refl,hK⟩)
   ·rw[List.drop_of_length_le hkl]at heq
    rw[heq]at hK
    (repeat' ((conv=>whnf);first|refine zG ?_|apply zA|(apply zI;intro h)|exact zT));(all_goals conv=>whnf)
    exact⟨_,Weak.refl,hK⟩
  ·rw[if_pos zp]at hK
   exact⟨_,Weak.tup2 Weak.nils Weak.refl,hK⟩
theorem svcGo_set:∀(its:List It) (s:List Bx),setB s=true->setB (svcGo its s).1=true
 |[],s,h=>h
 |x::r,s,h=>by
  rw[svcGo_drop]
  split
  ·exact setB_nil
  ·split
   ·exact setB_nil
   ·exact svcGo_set r _ (setB_combP ..)
theorem svcP_set(i:Nt)(nm:ByteArray):setB (svcP i nm).1=true:=by
 unfold svcP
 split
 ·exact init_set
 ·split
  ·exact setB_nil
  ·exact svcGo_set _ _ setB_nil
theorem bwB_snoc(a:List Rg)(r:Rg)(b:List Rg):btwB (a++[r]) b=btwB a b++b.map fun s=>btwX r s:=by simp[btwB]
theorem bwB_len(b:List Rg):∀a:List Rg,(btwB a b).length=a.length*b.length
 |[]=>by simp[btwB]
 |r::a=>by
  have:=bwB_len b a
  simp only[btwB,List.flatMap_cons,List.length_append,List.length_map,List.length_cons,Nat.succ_mul]at*
  omega
theorem crBtw(a b:List Rg)(ha:a.length<=860)(hb:b.length<=860){K:KT}(hK:K (.tup [encXs (makeP (btwB a b)).1,.v (.int .i64 (makeP (btwB a b)).2)]) []):ACall Tryz.prog 199 [encRs a,encRs b] [] K:=by
 refine ofrBtw rfl rfl ?_
 (repeat' ((conv=>whnf);first|refine zG ?_|apply zA|(apply zI;intro h)|exact zT));(all_goals conv=>whnf)
 refine Lp.intro Nat (fun i=>⟨1,[(0,.arr 10 ((btwB (a.take i) b).map encX))],[(1,encRs b),(6,.os 0 10 0 (btwB (a.take i) b).length),(12,encRs a),(13,.v (.int .i64 (a.map encR).length)),(14,.v (.int .i64 i))]⟩) (fun i=>i<=a.length) (fun i=>a.length-i) 0 (Nat.zero_le _) ?_ ?_
 ·rw[List.take_zero,show btwB [] b=[]from rfl]
  (exact leA)
 intro i hi
 have hl:=bwB_len b (a.take i)
 have hm:(a.take i).length*b.length<=860*860:=Nat.mul_le_mul (by rw[List.length_take];omega) hb
 rcases Nat.lt_or_ge i a.length with hil|hil
 ·obtain⟨r,hr⟩:=gex hil
  have hs:btwB (a.take (i+1)) b=btwB (a.take i) b++b.map fun s=>btwX r s:=by rw[List.take_add_one,hr];exact bwB_snoc ..
  generalize btwB (a.take i) b=A at*
  (repeat' ((conv=>whnf);first|(with_reducible first|refine in_map hil ?_|refine ix_map hr ?_)|refine zG ?_|apply zA|(apply zI;intro h)|exact zT));(all_goals conv=>whnf)
  refine Lp.intro Nat (fun k=>⟨2,[(0,.arr 10 ((A++(b.take k).map fun s=>btwX r s).map encX)),(1,.box [.v (.int .u32 r.lo),.v (.int .u32 r.hi)])],[(1,encRs b),(6,.os 0 10 0 (A++(b.take k).map fun s=>btwX r s).length),(8,.op 1 0),(12,encRs a),(13,.v (.int .i64 (a.map encR).length)),(14,.v (.int .i64 i)),(18,encRs b),(19,.v (.int .i64 (b.map encR).length)),(20,.v (.int .i64 k))]⟩) (fun k=>k<=b.length) (fun k=>b.length-k) 0 (Nat.zero_le _) ?_ ?_
  ·rw[List.take_zero,List.map_nil,List.append_nil]
   (exact leA)
  intro k hk
  rcases Nat.lt_or_ge k b.length with hkl|hkl
  ·obtain⟨s,hs2⟩:=gex hkl
   have hap:(A++(b.take (k+1)).map fun s=>btwX r s)=(A++(b.take k).map fun s=>btwX r s)++[btwX r s]:=by rw[List.take_add_one,hs2];simp
   have hlen:(A++(b.take k).map fun s=>btwX r s).length<=1000000:=by rw[List.length_append,List.length_map,List.length_take];omega
   generalize hB:(A++(b.take (k+1)).map fun s=>btwX r s)=B at*
   generalize (A++(b.take k).map fun s=>btwX r s)=C at*
   (repeat' ((conv=>whnf);first|(with_reducible first|refine cxFull ?_|refine in_map hkl ?_|refine ix_map hs2 ?_)|(refine in_c zd ?_)|(refine sl_full (by rfl) ?_)|refine zG ?_|apply zA|(apply zI;intro h)|exact zT));(all_goals conv=>whnf)
   all_goals
    refine⟨k+1,hkl,by omega,?_⟩
    rw[hB,hap,List.map_append,List.length_append,Int.natCast_add k,Int.natCast_one]
    (exact leA)
  ·(repeat' ((conv=>whnf);first|refine zG ?_|apply zA|(apply zI;intro h)|exact zT));(all_goals conv=>whnf)
   have hke:k=b.length:=by omega
   rw[hke,List.take_length,<-hs]
   refine⟨i+1,hil,by omega,?_⟩
   rw[Int.natCast_add i,Int.natCast_one]
   (exact leA)
 ·have hie:i=a.length:=by omega
  have hbl:(btwB a b).length<1000000000:=by
   have:=Nat.mul_le_mul ha hb
   rw[bwB_len];omega
  rw[hie,List.take_length]
  have hfull:((btwB a b).map encX).length=(btwB a b).length:=List.length_map ..
  (repeat' ((conv=>whnf);first|(with_reducible first|refine sl_full hfull ?_|refine cxMake (btwB a b) hbl ?_)|refine zG ?_|apply zA|(apply zI;intro h)|exact zT));(all_goals conv=>whnf)
  exact hK
theorem crStm(t:Tp)(hc:compB t=true)(i:Nt)(hb:Bnd i)(s:Sm){K:KT}(hK:K (.tup [encXs (stmP t i s).1,.v (.int .i64 (stmP t i s).2)]) []):ACall Tryz.prog 112 [encT t,encNt i,encSm s] [] K:=by
 refine ACall.weak (ofrStm rfl rfl ?_)
 have hl:=fun nm=>grpP_len hc hb nm
 have hg:=fun(nm:ByteArray) {K:KT} h=>@crGrp t hc i hb nm K h
 unfold stmP at hK
 have l1:=hl s.frm;have l2:=hl s.to;have l4:=hl s.exF;have l5:=hl s.exT
 have g1:=fun {K} h=>@hg s.frm K h
 have g2:=fun {K} h=>@hg s.to K h
 have g4:=fun {K} h=>@hg s.exF K h
 have g5:=fun {K} h=>@hg s.exT K h
 have g3:=fun {K} h=>@crSvc i hb s.svc K h
 have s3:=svcP_set i s.svc
 generalize grpP t i s.frm=F at*
 generalize grpP t i s.to=G at*
 generalize grpP t i s.exF=O at*
 generalize grpP t i s.exT=N at*
 generalize svcP i s.svc=V at*
 obtain⟨Fs,Fe⟩:=F
 obtain⟨Gs,Ge⟩:=G
 obtain⟨Os,Oe⟩:=O
 obtain⟨Ns,Ne⟩:=N
 obtain⟨Vs,Ve⟩:=V
 simp only at l1 l2 l4 l5 g1 g2 g3 g4 g5 s3 hK
 (repeat' ((conv=>whnf);first|(with_reducible first|refine g1 ?_|refine g2 ?_|refine g3 ?_)|refine zG ?_|apply zA|(apply zI;intro h)|exact zT));(all_goals conv=>whnf)
 rotate_left
 ·rw[bindE_ok (x:=(Fs,Fe)) zw,bindE_ok (x:=(Gs,Ge)) zw,bindE_no (x:=(Vs,Ve)) h]at hK
  exact⟨_,Weak.tup2 Weak.nils Weak.refl,hK⟩
 ·rw[bindE_ok (x:=(Fs,Fe)) zw,bindE_no (x:=(Gs,Ge)) h]at hK
  exact⟨_,Weak.tup2 Weak.nils Weak.refl,hK⟩
 ·rw[bindE_no (x:=(Fs,Fe)) h]at hK
  exact⟨_,Weak.tup2 Weak.nils Weak.refl,hK⟩
 rw[bindE_ok (x:=(Fs,Fe)) zw,bindE_ok (x:=(Gs,Ge)) zw,bindE_ok (x:=(Vs,Ve)) h]at hK
 simp only at hK
 have hvl:=setBlen s3
 have b1:=fun {K} h=>@crBtw Fs Gs l1 l2 K h
 have sB:=setB_makeP (btwB Fs Gs)
 have i1:=fun {K} h=>@cxInt (makeP (btwB Fs Gs)).1 Vs (setBlen sB) hvl K h
 have sC:=setB_combP anB (makeP (btwB Fs Gs)).1 Vs
 have b2:=fun {K} h=>@crBtw Os Ns l4 l5 K h
 have sD:=setB_makeP (btwB Os Ns)
 have i2:=fun {K} h=>@cxSub (combP anB (makeP (btwB Fs Gs)).1 Vs).1 (makeP (btwB Os Ns)).1 (setBlen sC) (setBlen sD) K h
 by_cases hex:s.exc=true
 ·simp only[hex,if_true]at hK
  refine Jn.intro Unit (fun _=>⟨3,[(2,.box [.sb s.permit,.v (.string s.frm),.v (.string s.to),.v (.string s.svc),.sb s.exc,.v (.string s.exF),.v (.string s.exT),.v (.string s.cls),.v (.string s.dur),.v (.int .i64 s.pri)])],[(5,.op 2 0),(8,encRs Fs),(10,encRs Gs),(11,encXs Vs),(12,encRs Os),(13,encRs Ns)]⟩) (fun _=>Oe=0/\Ne=0) ?_ ?_
  ·(repeat' ((conv=>whnf);first|(with_reducible first|refine g4 ?_|refine g5 ?_)|refine zG ?_|apply zA|(apply zI;intro h)|exact zT));(all_goals conv=>whnf)
   all_goals first
    |(refine⟨(),⟨by with_reducible assumption,by with_reducible assumption⟩,?_⟩
      (exact leA)
      done)
    |(rw[bindE_no (x:=(Os,Oe)) h]at hK
      exact⟨_,Weak.tup2 Weak.nils Weak.refl,hK⟩)
    |(rw[bindE_ok (x:=(Os,Oe)) zw,bindE_no (x:=(Ns,Ne)) h]at hK
      exact⟨_,Weak.tup2 Weak.nils Weak.refl,hK⟩)
  rintro⟨⟩ ⟨h1,h2⟩
  rw[bindE_ok (x:=(Os,Oe)) h1,bindE_ok (x:=(Ns,Ne)) h2]at hK
  simp only at hK
  generalize makeP (btwB Fs Gs)=B at*
  generalize makeP (btwB Os Ns)=D at*
  generalize hC:combP anB B.1 Vs=C at*
  generalize hX:combP woB C.1 D.1=X at*
  obtain⟨Bs,Be⟩:=B
  obtain⟨Cs,Ce⟩:=C
  obtain⟨Ds,De⟩:=D
  obtain⟨Xs,Xe⟩:=X
  simp only at b1 i1 b2 i2 hK hC hX
  (repeat' ((conv=>whnf);first|(with_reducible first|refine b1 ?_|refine i1 ?_|refine b2 ?_|refine i2 ?_)|refine zG ?_|apply zA|(apply zI;intro h)|exact zT));(all_goals conv=>whnf)
  ·rw[bindE_ok (x:=(Bs,Be)) zw]at hK
   simp only[hC]at hK
   rw[if_neg (fun hh=>hh.elim (fun hn=>hn zw) (fun hn=>by cases hn)),bindE_ok (x:=(Ds,De)) h]at hK
   simp only[hX]at hK
   exact⟨_,Weak.refl,hK⟩
  ·rw[bindE_ok (x:=(Bs,Be)) zw]at hK
   simp only[hC]at hK
   rw[if_neg (fun hh=>hh.elim (fun hn=>hn zw) (fun hn=>by cases hn)),bindE_no (x:=(Ds,De)) h]at hK
   exact⟨_,Weak.tup2 Weak.nils Weak.refl,hK⟩
  ·rw[bindE_ok (x:=(Bs,Be)) zw]at hK
   simp only[hC]at hK
   rw[if_pos (.inl h)]at hK
   exact⟨_,Weak.refl,hK⟩
  ·rw[bindE_no (x:=(Bs,Be)) h]at hK
   exact⟨_,Weak.tup2 Weak.nils Weak.refl,hK⟩
 ·have hexf:s.exc=false:=by simpa using hex
  simp only[hexf,Bool.false_eq_true,if_false]at hK
  rw[bindE_ok (x:=(([]:List Rg),(0:Int))) rfl,bindE_ok (x:=(([]:List Rg),(0:Int))) rfl]at hK
  refine Jn.at ⟨3,[(2,.box [.sb s.permit,.v (.string s.frm),.v (.string s.to),.v (.string s.svc),.sb s.exc,.v (.string s.exF),.v (.string s.exT),.v (.string s.cls),.v (.string s.dur),.v (.int .i64 s.pri)])],[(5,.op 2 0),(8,encRs Fs),(10,encRs Gs),(11,encXs Vs)]⟩ ?_ ?_
  ·(repeat' ((conv=>whnf);first|refine zG ?_|apply zA|(apply zI;intro h)|exact zT));(all_goals conv=>whnf)
   refine⟨(),trivial,?_⟩
   (exact leA)
  simp only at hK
  generalize makeP (btwB Fs Gs)=B at*
  generalize hC:combP anB B.1 Vs=C at*
  obtain⟨Bs,Be⟩:=B
  obtain⟨Cs,Ce⟩:=C
  simp only at b1 i1 hK hC
  (repeat' ((conv=>whnf);first|(with_reducible first|refine b1 ?_|refine i1 ?_)|refine zG ?_|apply zA|(apply zI;intro h)|exact zT));(all_goals conv=>whnf)
  all_goals first
   |(rw[bindE_no (x:=(Bs,Be)) h]at hK
     exact⟨_,Weak.tup2 Weak.nils Weak.refl,hK⟩)
   |(rw[bindE_ok (x:=(Bs,Be)) zw]at hK
     simp only[hC,or_true,if_true,ite_self]at hK
     exact⟨_,Weak.refl,hK⟩)
noncomputable def stmV(t:Tp)(i:Nt)(n:Int):List Bx×Int:=
 if compB t=true/\ntB i=true then(if n<0\/(i.sts.length:Int)<=n then([],2)else match i.sts[n.toNat]? with
  |some s=>stmP t i s
  |none=>([],2))else([],1)
theorem crStatement(t:Tp)(ht:t.edges.length<1000000)(i:Nt)(hb:Bnd i)(n:Int){K:KT}(hK:K (.tup [encXs (stmV t i n).1,.v (.int .i64 (stmV t i n).2)]) []):ACall Tryz.prog 48 [encT t,encNt i,.v (.int .i64 n)] [] K:=by
 refine ACall.weak (ofrStmt rfl rfl ?_)
 unfold stmV at hK
 have bt:=hb.t
 by_cases hc:compB t=true
 ·by_cases hn:n<0\/(i.sts.length:Int)<=n
  ·rw[if_pos hn]at hK
   (repeat' ((conv=>whnf);first|(with_reducible first|refine ctComp t ht ?_|refine ckNt i hb ?_)|refine zG ?_|apply zA|(apply zI;intro h)|exact zT));(all_goals conv=>whnf)
   all_goals first
    |(rw[if_pos ⟨hc,zw⟩]at hK
      exact⟨_,Weak.tup2 Weak.nils Weak.refl,hK⟩)
    |(rw[if_neg (fun hh=>by rw[hh.2]at h;cases h)]at hK
      exact⟨_,Weak.tup2 Weak.nils Weak.refl,hK⟩)
    |(exfalso;simp only[List.length_map]at*;omega)
  ·rw[if_neg hn]at hK
   obtain⟨k,rfl⟩:=Int.eq_ofNat_of_zero_le (show 0<=n by omega)
   have hkl:k<i.sts.length:=by omega
   obtain⟨s,hs⟩:=gex hkl
   simp only[Int.toNat_natCast,hs]at hK
   have hg:=fun {K} h=>@crStm t hc i hb s K h
   (repeat' ((conv=>whnf);first|(with_reducible first|refine ctComp t ht ?_|refine ckNt i hb ?_|refine in_map hkl ?_|refine ix_map hs ?_|refine hg ?_)|refine zG ?_|apply zA|(apply zI;intro h)|exact zT));(all_goals conv=>whnf)
   all_goals first
    |(rw[if_pos ⟨hc,zw⟩]at hK
      exact⟨_,Weak.refl,hK⟩)
    |(rw[if_neg (fun hh=>by rw[hh.2]at h;cases h)]at hK
      exact⟨_,Weak.tup2 Weak.nils Weak.refl,hK⟩)
    |(exfalso;simp only[List.length_map]at*;omega)
 ·have hcf:compB t=false:=by simpa using hc
  rw[if_neg (fun hh=>hc hh.1)]at hK
  (repeat' ((conv=>whnf);first|(with_reducible refine ctComp t ht ?_)|refine zG ?_|apply zA|(apply zI;intro h)|exact zT));(all_goals conv=>whnf)
  exact⟨_,Weak.tup2 Weak.nils Weak.refl,hK⟩
noncomputable abbrev clSm(s:Sm):List AV:=[.sb s.permit,.v (.string s.frm),.v (.string s.to),.v (.string s.svc),.sb s.exc,.v (.string s.exF),.v (.string s.exT),.v (.string s.cls),.v (.string s.dur),.v (.int .i64 s.pri)]
theorem crNam1(d:Dv)(s:Sm){K:KT}(hK:K (.sb (sEq d.cls s.cls)) []):ACall Tryz.prog 268 [encD d,.fp (clSm s)] [] K:=by
 refine ofrNam1 rfl rfl ?_
 (repeat' ((conv=>whnf);first|refine zG ?_|apply zA|(apply zI;intro h)|exact zT));(all_goals conv=>whnf)
 exact hK
theorem crNam2(d:Wn)(s:Sm){K:KT}(hK:K (.sb (sEq d.name s.dur)) []):ACall Tryz.prog 270 [encWn d,.fp (clSm s)] [] K:=by
 refine ofrNam2 rfl rfl ?_
 (repeat' ((conv=>whnf);first|refine zG ?_|apply zA|(apply zI;intro h)|exact zT));(all_goals conv=>whnf)
 exact hK
theorem crAnD(l:List Dv)(s:Sm)(hl:l.length<1000000){K:KT}(hK:K (.sb (l.any fun d=>sEq d.cls s.cls)) []):
  ACall Tryz.prog 267 [.lst (l.map encD),.fn (.func 268) [] [.fp (clSm s)]] [] K:=by
 have hc:∀{K:KT},K (.v (.int .i64 (firstIx (fun d:Dv=>sEq d.cls s.cls) l))) []->ACall Tryz.prog 284 [.lst (l.map encD),.fn (.func 268) [] [.fp (clSm s)]] [] K:=fun h=>cixDev l _ _ (fun d=>sEq d.cls s.cls) (fun x K h=>crNam1 x s h) hl h
 refine ofrAnD rfl rfl ?_
 (repeat' ((conv=>whnf);first|(with_reducible refine hc ?_)|refine zG ?_|apply zA|(apply zI;intro h)|exact zT));(all_goals conv=>whnf)
 rw[<-first_any]at hK
 exact hK
theorem crAnW(l:List Wn)(s:Sm)(hl:l.length<1000000){K:KT}(hK:K (.sb (l.any fun d=>sEq d.name s.dur)) []):
  ACall Tryz.prog 269 [.lst (l.map encWn),.fn (.func 270) [] [.fp (clSm s)]] [] K:=by
 have hc:∀{K:KT},K (.v (.int .i64 (firstIx (fun d:Wn=>sEq d.name s.dur) l))) []->ACall Tryz.prog 180 [.lst (l.map encWn),.fn (.func 270) [] [.fp (clSm s)]] [] K:=fun h=>cixW l _ _ (fun d=>sEq d.name s.dur) (fun x K h=>crNam2 x s h) hl h
 refine ofrAnW rfl rfl ?_
 (repeat' ((conv=>whnf);first|(with_reducible refine hc ?_)|refine zG ?_|apply zA|(apply zI;intro h)|exact zT));(all_goals conv=>whnf)
 rw[<-first_any]at hK
 exact hK
theorem crNames(t:Tp)(ht:t.devs.length<1000000)(i:Nt)(hb:Bnd i)(s:Sm){K:KT}(hK:K (.v (.int .i64 (namE t i s))) []):ACall Tryz.prog 195 [encT t,encNt i,encSm s] [] K:=by
 have bw:=hb.w
 refine ofrNames rfl rfl ?_
 (repeat' ((conv=>whnf);first|(with_reducible first|refine crAnD t.devs s ht ?_|refine crAnW i.wins s zo ?_)|refine zG ?_|apply zA|(apply zI;intro h)|exact zT));(all_goals conv=>whnf)
 all_goals
  have e:∀b:ByteArray,sEq b ⟨#[]⟩=(b.toList==(⟨#[]⟩:ByteArray).toList):=fun _=>rfl
  unfold namE at hK
  rw[e,e]at hK
  simp_all
 all_goals first
  |exact hK
theorem fstE_cons{α:Type}(f:α->Int)(x:α)(l:List α):fstE f (x::l)=if f x≠0 then f x else fstE f l:=rfl
noncomputable def chkV(t:Tp)(i:Nt):Int:=if compB t=true/\ntB i=true then chkP t i else 1
theorem chkP_eq(t:Tp)(i:Nt):chkP t i=
  if fstE (fun d:Df=>(grpP t i d.name).2) i.grps≠0 then fstE (fun d:Df=>(grpP t i d.name).2) i.grps else
  if fstE (fun d:Df=>(svcP i d.name).2) i.svcs≠0 then fstE (fun d:Df=>(svcP i d.name).2) i.svcs else
  if fstE (fun s:Sm=>if(stmP t i s).2≠0 then(stmP t i s).2 else namE t i s) i.sts≠0 then fstE (fun s:Sm=>if(stmP t i s).2≠0 then(stmP t i s).2 else namE t i s) i.sts else
  if fstE (fun p:Pb=>if edgeIx t.edges p.edge<0 then 5 else 0) i.pubs≠0 then fstE (fun p:Pb=>if edgeIx t.edges p.edge<0 then 5 else 0) i.pubs else
  fstE (fun h:Hn=>if edgeIx t.edges h.edge<0 then 5 else(grpP t i h.grp).2) i.hids:=rfl
theorem crCheck(t:Tp)(ht:t.edges.length<1000000)(hd:t.devs.length<1000000)(i:Nt)(hb:Bnd i){K:KT}(hK:K (.v (.int .i64 (chkV t i))) []):ACall Tryz.prog 110 [encT t,encNt i] [] K:=by
 have bg:=hb.g;have bs:=hb.s;have bt:=hb.t;have bp:=hb.p;have bh:=hb.h
 refine ofrCheck rfl rfl ?_
 unfold chkV at hK
 by_cases hc:compB t=true
 rotate_left
 ·have hcf:compB t=false:=by simpa using hc
  rw[if_neg (fun hh=>hc hh.1)]at hK
  (repeat' ((conv=>whnf);first|(with_reducible refine ctComp t ht ?_)|refine zG ?_|apply zA|(apply zI;intro h)|exact zT));(all_goals conv=>whnf)
  exact hK
 by_cases hn:ntB i=true
 rotate_left
 ·have hnf:ntB i=false:=by simpa using hn
  rw[if_neg (fun hh=>hn hh.2)]at hK
  (repeat' ((conv=>whnf);first|(with_reducible first|refine ctComp t ht ?_|refine ckNt i hb ?_)|refine zG ?_|apply zA|(apply zI;intro h)|exact zT));(all_goals conv=>whnf)
  exact hK
 rw[if_pos ⟨hc,hn⟩,chkP_eq]at hK
 have hg:=fun(nm:ByteArray) {K:KT} h=>@crGrp t hc i hb nm K h
 have hs:=fun(nm:ByteArray) {K:KT} h=>@crSvc i hb nm K h
 have hm:=fun(s:Sm) {K:KT} h=>@crStm t hc i hb s K h
 (repeat' ((conv=>whnf);first|(with_reducible first|refine ctComp t ht ?_|refine ckNt i hb ?_)|refine zG ?_|apply zA|(apply zI;intro h)|exact zT));(all_goals conv=>whnf)
 refine Lp.intro Nat (fun n=>⟨2,[(0,boxT t),(1,boxNt i)],[(2,.op 0 0),(3,.op 1 0),(33,.lst (i.grps.map encDf)),(34,.v (.int .i64 (i.grps.map encDf).length)),(35,.v (.int .i64 n))]⟩) (fun n=>n<=i.grps.length/\fstE (fun d:Df=>(grpP t i d.name).2) i.grps=fstE (fun d:Df=>(grpP t i d.name).2) (i.grps.drop n)) (fun n=>i.grps.length-n) 0 ⟨Nat.zero_le _,by rw[List.drop_zero]⟩ ?_ ?_
 ·(exact leA)
 intro n ⟨hn1,heq⟩
 rcases Nat.lt_or_ge n i.grps.length with hnl|hnl
 ·obtain⟨x,hx⟩:=gex hnl
  have hdr:i.grps.drop n=x::i.grps.drop (n+1):=by
   rw[List.getElem?_eq_getElem hnl]at hx
   rw[<-Option.some.inj hx,<-List.drop_eq_getElem_cons hnl]
  rw[hdr,fstE_cons]at heq
  have hgx:=fun {K} h=>@hg x.name K h
  generalize grpP t i x.name=G at*
  obtain⟨Gs,Ge⟩:=G
  simp only at heq hgx
  (repeat' ((conv=>whnf);first|(with_reducible first|refine in_map hnl ?_|refine ix_map hx ?_|refine hgx ?_)|refine zG ?_|apply zA|(apply zI;intro h)|exact zT));(all_goals conv=>whnf)
  all_goals first
   |(rw[if_neg (fun hh=>hh h)]at heq
     refine⟨n+1,⟨hnl,heq⟩,by omega,?_⟩
     rw[Int.natCast_add,Int.natCast_one]
     (exact leA)
     done)
   |(rw[if_pos h]at heq
     rw[heq,if_pos h]at hK
     exact hK)
 rw[List.drop_of_length_le hnl]at heq
 have e0:fstE (fun d:Df=>(grpP t i d.name).2) i.grps=0:=heq
 clear heq
 (repeat' ((conv=>whnf);first|refine zG ?_|apply zA|(apply zI;intro h)|exact zT));(all_goals conv=>whnf)
 refine Lp.intro Nat (fun n=>⟨2,[(0,boxT t),(1,boxNt i)],[(2,.op 0 0),(3,.op 1 0),(52,.lst (i.svcs.map encDf)),(53,.v (.int .i64 (i.svcs.map encDf).length)),(54,.v (.int .i64 n))]⟩) (fun n=>n<=i.svcs.length/\fstE (fun d:Df=>(svcP i d.name).2) i.svcs=fstE (fun d:Df=>(svcP i d.name).2) (i.svcs.drop n)) (fun n=>i.svcs.length-n) 0 ⟨Nat.zero_le _,by rw[List.drop_zero]⟩ ?_ ?_
 ·(exact leA)
 intro n ⟨hn1,heq⟩
 rcases Nat.lt_or_ge n i.svcs.length with hnl|hnl
 ·obtain⟨x,hx⟩:=gex hnl
  have hdr:i.svcs.drop n=x::i.svcs.drop (n+1):=by
   rw[List.getElem?_eq_getElem hnl]at hx
   rw[<-Option.some.inj hx,<-List.drop_eq_getElem_cons hnl]
  rw[hdr,fstE_cons]at heq
  have hsx:=fun {K} h=>@hs x.name K h
  generalize svcP i x.name=G at*
  obtain⟨Gs,Ge⟩:=G
  simp only at heq hsx
  (repeat' ((conv=>whnf);first|(with_reducible first|refine in_map hnl ?_|refine ix_map hx ?_|refine hsx ?_)|refine zG ?_|apply zA|(apply zI;intro h)|exact zT));(all_goals conv=>whnf)
  all_goals first
   |(rw[if_neg (fun hh=>hh h)]at heq
     refine⟨n+1,⟨hnl,heq⟩,by omega,?_⟩
     rw[Int.natCast_add,Int.natCast_one]
     (exact leA)
     done)
   |(rw[if_pos h]at heq
     rw[if_neg (fun hh=>hh e0)]at hK
     rw[heq,if_pos h]at hK
     exact hK)
 rw[List.drop_of_length_le hnl]at heq
 have e1:fstE (fun d:Df=>(svcP i d.name).2) i.svcs=0:=heq
 clear heq
 (repeat' ((conv=>whnf);first|refine zG ?_|apply zA|(apply zI;intro h)|exact zT));(all_goals conv=>whnf)
 refine Lp.intro Nat (fun n=>⟨2,[(0,boxT t),(1,boxNt i)],[(2,.op 0 0),(3,.op 1 0),(70,.lst (i.sts.map encSm)),(71,.v (.int .i64 (i.sts.map encSm).length)),(72,.v (.int .i64 n))]⟩) (fun n=>n<=i.sts.length/\fstE (fun s:Sm=>if(stmP t i s).2≠0 then(stmP t i s).2 else namE t i s) i.sts=fstE (fun s:Sm=>if(stmP t i s).2≠0 then(stmP t i s).2 else namE t i s) (i.sts.drop n)) (fun n=>i.sts.length-n) 0 ⟨Nat.zero_le _,by rw[List.drop_zero]⟩ ?_ ?_
 ·(exact leA)
 intro n ⟨hn1,heq⟩
 rcases Nat.lt_or_ge n i.sts.length with hnl|hnl
 ·obtain⟨x,hx⟩:=gex hnl
  have hdr:i.sts.drop n=x::i.sts.drop (n+1):=by
   rw[List.getElem?_eq_getElem hnl]at hx
   rw[<-Option.some.inj hx,<-List.drop_eq_getElem_cons hnl]
  rw[hdr,fstE_cons]at heq
  have hmx:=fun {K} h=>@hm x K h
  generalize stmP t i x=G at*
  obtain⟨Gs,Ge⟩:=G
  simp only at heq hmx
  (repeat' ((conv=>whnf);first|(with_reducible first|refine in_map hnl ?_|refine ix_map hx ?_|refine hmx ?_|refine crNames t hd i hb x ?_)|refine zG ?_|apply zA|(apply zI;intro h)|exact zT));(all_goals conv=>whnf)
  all_goals first
   |(rename_i hz
     rw[if_neg (show ¬(Ge≠0)from fun hh=>hh hz),if_neg (fun hh=>hh h)]at heq
     refine⟨n+1,⟨hnl,heq⟩,by omega,?_⟩
     rw[Int.natCast_add,Int.natCast_one]
     (exact leA)
     done)
   |(rw[if_pos h,if_pos h]at heq
     rw[if_neg (fun hh=>hh e0),if_neg (fun hh=>hh e1)]at hK
     rw[heq,if_pos h]at hK
     exact hK)
   |(rename_i hz
     rw[if_neg (show ¬(Ge≠0)from fun hh=>hh hz),if_pos h]at heq
     rw[if_neg (fun hh=>hh e0),if_neg (fun hh=>hh e1)]at hK
     rw[heq,if_pos h]at hK
     exact hK)
 rw[List.drop_of_length_le hnl]at heq
 have e2:fstE (fun s:Sm=>if(stmP t i s).2≠0 then(stmP t i s).2 else namE t i s) i.sts=0:=heq
 clear heq
 (repeat' ((conv=>whnf);first|refine zG ?_|apply zA|(apply zI;intro h)|exact zT));(all_goals conv=>whnf)
 refine Lp.intro Nat (fun n=>⟨2,[(0,boxT t),(1,boxNt i)],[(2,.op 0 0),(3,.op 1 0),(95,.lst (i.pubs.map encPb)),(96,.v (.int .i64 (i.pubs.map encPb).length)),(97,.v (.int .i64 n))]⟩) (fun n=>n<=i.pubs.length/\fstE (fun p:Pb=>if edgeIx t.edges p.edge<0 then 5 else 0) i.pubs=fstE (fun p:Pb=>if edgeIx t.edges p.edge<0 then 5 else 0) (i.pubs.drop n)) (fun n=>i.pubs.length-n) 0 ⟨Nat.zero_le _,by rw[List.drop_zero]⟩ ?_ ?_
 ·(exact leA)
 intro n ⟨hn1,heq⟩
 rcases Nat.lt_or_ge n i.pubs.length with hnl|hnl
 ·obtain⟨x,hx⟩:=gex hnl
  have hdr:i.pubs.drop n=x::i.pubs.drop (n+1):=by
   rw[List.getElem?_eq_getElem hnl]at hx
   rw[<-Option.some.inj hx,<-List.drop_eq_getElem_cons hnl]
  rw[hdr,fstE_cons]at heq
  (repeat' ((conv=>whnf);first|(with_reducible first|refine in_map hnl ?_|refine ix_map hx ?_|refine ctEdge t _ ht ?_)|refine zG ?_|apply zA|(apply zI;intro h)|exact zT));(all_goals conv=>whnf)
  all_goals first
   |(rw[if_neg h,if_neg zd]at heq
     refine⟨n+1,⟨hnl,heq⟩,by omega,?_⟩
     rw[Int.natCast_add,Int.natCast_one]
     (exact leA)
     done)
   |(rw[if_pos h,if_pos zd]at heq
     rw[if_neg (fun hh=>hh e0),if_neg (fun hh=>hh e1),if_neg (fun hh=>hh e2)]at hK
     rw[heq,if_pos zd]at hK
     exact hK)
 rw[List.drop_of_length_le hnl]at heq
 have e3:fstE (fun p:Pb=>if edgeIx t.edges p.edge<0 then 5 else 0) i.pubs=0:=heq
 clear heq
 (repeat' ((conv=>whnf);first|refine zG ?_|apply zA|(apply zI;intro h)|exact zT));(all_goals conv=>whnf)
 refine Lp.intro Nat (fun n=>⟨2,[(0,boxT t),(1,boxNt i)],[(2,.op 0 0),(3,.op 1 0),(108,.lst (i.hids.map encHn)),(109,.v (.int .i64 (i.hids.map encHn).length)),(110,.v (.int .i64 n))]⟩) (fun n=>n<=i.hids.length/\fstE (fun h:Hn=>if edgeIx t.edges h.edge<0 then 5 else(grpP t i h.grp).2) i.hids=fstE (fun h:Hn=>if edgeIx t.edges h.edge<0 then 5 else(grpP t i h.grp).2) (i.hids.drop n)) (fun n=>i.hids.length-n) 0 ⟨Nat.zero_le _,by rw[List.drop_zero]⟩ ?_ ?_
 ·(exact leA)
 intro n ⟨hn1,heq⟩
 rcases Nat.lt_or_ge n i.hids.length with hnl|hnl
 ·obtain⟨x,hx⟩:=gex hnl
  have hdr:i.hids.drop n=x::i.hids.drop (n+1):=by
   rw[List.getElem?_eq_getElem hnl]at hx
   rw[<-Option.some.inj hx,<-List.drop_eq_getElem_cons hnl]
  rw[hdr,fstE_cons]at heq
  have hgx:=fun {K} h=>@hg x.grp K h
  generalize grpP t i x.grp=G at*
  obtain⟨Gs,Ge⟩:=G
  simp only at heq hgx
  (repeat' ((conv=>whnf);first|(with_reducible first|refine in_map hnl ?_|refine ix_map hx ?_|refine ctEdge t _ ht ?_|refine hgx ?_)|refine zG ?_|apply zA|(apply zI;intro h)|exact zT));(all_goals conv=>whnf)
  all_goals first
   |(rename_i hz
     rw[if_neg hz,if_neg (fun hh=>hh h)]at heq
     refine⟨n+1,⟨hnl,heq⟩,by omega,?_⟩
     rw[Int.natCast_add,Int.natCast_one]
     (exact leA)
     done)
   |(rw[if_pos h,if_pos zd]at heq
     rw[if_neg (fun hh=>hh e0),if_neg (fun hh=>hh e1),if_neg (fun hh=>hh e2),if_neg (fun hh=>hh e3)]at hK
     rw[heq]at hK
     exact hK)
   |(rename_i hz
     rw[if_neg hz,if_pos h]at heq
     rw[if_neg (fun hh=>hh e0),if_neg (fun hh=>hh e1),if_neg (fun hh=>hh e2),if_neg (fun hh=>hh e3)]at hK
     rw[heq]at hK
     exact hK)
 rw[List.drop_of_length_le hnl]at heq
 have e4:fstE (fun h:Hn=>if edgeIx t.edges h.edge<0 then 5 else(grpP t i h.grp).2) i.hids=0:=heq
 clear heq
 rw[if_neg (fun hh=>hh e0),if_neg (fun hh=>hh e1),if_neg (fun hh=>hh e2),if_neg (fun hh=>hh e3),e4]at hK
 (repeat' ((conv=>whnf);first|refine zG ?_|apply zA|(apply zI;intro h)|exact zT));(all_goals conv=>whnf)
 exact hK
def actW(l:List Rg)(m:Int):Bool:=decide (0<=m)&&(decide (m<=4294967295)&&has l m)
def actB(i:Nt)(x:Sm)(m:Int):Bool:=sEq x.dur ⟨#[]⟩||(decide (0<=wnIx i.wins x.dur)&&actW (((i.wins[(wnIx i.wins x.dur).toNat]?).map Wn.act).getD []) m)
def priN(i:Nt)(n:Nat):Int:=((i.sts[n]?).map Sm.pri).getD 0
def actN(i:Nt)(m:Int)(n:Nat):Bool:=((i.sts[n]?).map fun x=>actB i x m).getD false
def priAt(i:Nt)(m:Int)(p:Int)(k:Nat):List Nat:=(List.range k).filter fun n=>decide (priN i n=p)&&actN i m n
def ordF(i:Nt)(m:Int)(c:Nat):List Nat:=(List.range c).flatMap fun(c:Nat)=>priAt i m (1000-(c:Int)) i.sts.length
def ordP(i:Nt)(m:Int):List Nat:=ordF i m 1001
theorem priAt_mem{i:Nt}{m p:Int}{k n:Nat}:n∈priAt i m p k↔n<k/\priN i n=p/\actN i m n=true:=by
 rw[priAt,List.mem_filter,List.mem_range,Bool.and_eq_true,decide_eq_true_eq]
theorem ordF_lt{i:Nt}{m:Int}{c n:Nat}(h:n∈ordF i m c):n<i.sts.length:=by
 rw[ordF,List.mem_flatMap]at h
 obtain⟨a,_,ha⟩:=h
 exact(priAt_mem.1 ha).1
/-! the stable sort by priority gives this order -/
section
variable (f:Nat->Int)
def blk(l:List Nat)(a n:Nat):List Nat:=(List.range n).flatMap fun(c:Nat)=>l.filter fun x=>decide (f x=1000-((a+c:Nat):Int))
theorem blk_add(l:List Nat)(a n k:Nat):blk f l a (n+k)=blk f l a n++blk f l (a+n) k:=by
 rw[blk,List.range_add,List.flatMap_append,<-blk,List.flatMap_map]
 simp only[blk,Nat.add_assoc]
theorem blk_snoc{l:List Nat}{x:Nat}{a n:Nat}(h:∀c,c<n->f x≠1000-((a+c:Nat):Int)):blk f (l++[x]) a n=blk f l a n:=by
 unfold blk
 rw[List.flatMap_def,List.flatMap_def]
 congr 1
 refine List.map_congr_left fun c hc=>?_
 rw[List.filter_append,List.filter_cons_of_neg (by simpa using h c (List.mem_range.1 hc))]
 simp
theorem blk_mem{l:List Nat}{a n y:Nat}(h:y∈blk f l a n):1000-((a+n:Nat):Int)<f y/\f y<=1000-(a:Int):=by
 rw[blk,List.mem_flatMap]at h
 obtain⟨c,hc,hy⟩:=h
 have h1:=List.mem_range.1 hc
 have h2:=(List.mem_filter.1 hy).2
 rw[decide_eq_true_eq]at h2
 omega
theorem ins_blk{l:List Nat}{x:Nat}(h0:0<=f x)(h1:f x<=1000):insRev (fun a b=>decide (f b<f a)) (blk f l 0 1001).reverse x=(blk f (l++[x]) 0 1001).reverse:=by
 obtain⟨c,hc⟩:∃c:Nat,f x=1000-(c:Int):=⟨(1000-f x).toNat,by omega⟩
 obtain⟨k,hk⟩:∃k:Nat,c+1+k=1001:=⟨1000-c,by omega⟩
 have e1:blk f l 0 1001=blk f l 0 (c+1)++blk f l (c+1) k:=by rw[<-hk,blk_add];simp
 have e2:blk f (l++[x]) 0 1001=blk f l 0 (c+1)++x::blk f l (c+1) k:=by
  rw[<-hk,blk_add,blk_add f (l++[x]) 0 c 1,blk_add f l 0 c 1,blk_snoc f (n:=c) (fun d hd=>by omega),blk_snoc f (n:=k) (fun d hd=>by omega)]
  have:blk f (l++[x]) (0+c) 1=blk f l (0+c) 1++[x]:=by
   unfold blk
   simp only[List.range_one,List.flatMap_cons,List.flatMap_nil,List.append_nil,List.filter_append]
   rw[List.filter_cons_of_pos (by simp only[decide_eq_true_eq];omega)]
   simp
  rw[this]
  simp
 rw[e1,e2,List.reverse_append,List.reverse_append,List.reverse_cons,List.append_assoc,insRev_at (fun y hy=>?_) (fun y A' hA=>?_)]
 ·simp
 ·have:=(blk_mem f (List.mem_reverse.1 hy)).2
  rw[decide_eq_true_eq];omega
 ·have hy:y∈blk f l 0 (c+1):=List.mem_reverse.1 (by rw[hA];simp)
  have:=(blk_mem f hy).1
  rw[decide_eq_false_iff_not];omega
theorem isort_blk:∀(l:List Nat),(∀x,x∈l->0<=f x/\f x<=1000)->isort (fun a b=>decide (f b<f a)) l=blk f l 0 1001:=by
 intro l h
 suffices hs:∀(l acc:List Nat),(∀x,x∈l->0<=f x/\f x<=1000)->l.foldl (insRev fun a b=>decide (f b<f a)) (blk f acc 0 1001).reverse=(blk f (acc++l) 0 1001).reverse by
  have:=hs l [] h
  rw[isort,sortRev]
  have e:(blk f [] 0 1001).reverse=[]:=by unfold blk;simp
  rw[e]at this
  rw[this];simp
 intro l
 induction l with
 |nil=>intro acc _;simp
 |cons x l ih=>
  intro acc h
  rw[List.foldl_cons,ins_blk f (h x zx).1 (h x zx).2,ih _ fun y hy=>h y (List.mem_cons_of_mem _ hy)]
  simp
end
theorem ord_sort{i:Nt}{m:Int}(hp:∀x,x∈i.sts->0<=x.pri/\x.pri<=1000):isort (fun a b=>decide (priN i b<priN i a)) ((List.range i.sts.length).filter (actN i m))=ordP i m:=by
 rw[isort_blk (priN i)]
 ·unfold blk ordP ordF priAt
  congr 1
  funext c
  rw[List.filter_filter]
  simp
 ·intro n hn
  have hl:=List.mem_range.1 (List.mem_filter.1 hn).1
  rw[priN,List.getElem?_eq_getElem hl]
  exact hp _ (List.getElem_mem hl)
theorem ordP_len{i:Nt}{m:Int}(hp:∀x,x∈i.sts->0<=x.pri/\x.pri<=1000):(ordP i m).length<=i.sts.length:=by
 rw[<-ord_sort hp,isort_length]
 exact Nat.le_trans (List.length_filter_le ..) zx
/-! a part is joined with the set of a class -/
def putG:List Insp->ByteArray->List Bx->List Insp×Int
 |[],c,s=>([⟨c,s⟩],0)
 |y::r,c,s=>if ltS y.cls c=true then(y::(putG r c s).1,(putG r c s).2)else
  if sEq y.cls c=true then(⟨y.cls,(combP orB y.set s).1⟩::r,(combP orB y.set s).2)else(⟨c,s⟩::y::r,0)
def putP(l:List Insp)(c:ByteArray)(s:List Bx):List Insp×Int:=if sEq c ⟨#[]⟩=true\/s=[]then(l,0)else putG l c s
theorem sEq_iff{a b:ByteArray}:sEq a b=true↔a=b:=by
 rw[sEq_data]
 constructor
 ·intro h
  obtain⟨a⟩:=a
  obtain⟨b⟩:=b
  have:a.toList=b.toList:=by simpa using h
  rw[Array.toList_inj.1 this]
 ·rintro rfl;simp
theorem ltS_irr(a:ByteArray):ltS a a=false:=by
 rw[Bool.eq_false_iff]
 intro h
 have:=(bl_asymm _ _ h).1
 rw[show Op.bytesLess a.toList a.toList=ltS a a from rfl,h]at this
 cases this
/-! the policy at a minute -/
def zPol:Pol:=⟨[],[]⟩
noncomputable def atGo(t:Tp)(i:Nt):List Nat->List Bx->Pol->Pol×Int
 |[],_,p=>(p,0)
 |n::r,rest,p=>match i.sts[n]? with
  |none=>(p,0)
  |some x=>
   if(combP anB rest (stmP t i x).1).2≠0 then(zPol,(combP anB rest (stmP t i x).1).2)else
   if(combP woB rest (stmP t i x).1).2≠0 then(zPol,(combP woB rest (stmP t i x).1).2)else
   if x.permit=false then atGo t i r (combP woB rest (stmP t i x).1).1 p else
   if(combP orB p.allow (combP anB rest (stmP t i x).1).1).2≠0 then(zPol,(combP orB p.allow (combP anB rest (stmP t i x).1).1).2)else
   if(putP p.insp x.cls (combP anB rest (stmP t i x).1).1).2≠0 then(zPol,(putP p.insp x.cls (combP anB rest (stmP t i x).1).1).2)else
   atGo t i r (combP woB rest (stmP t i x).1).1 ⟨(combP orB p.allow (combP anB rest (stmP t i x).1).1).1,(putP p.insp x.cls (combP anB rest (stmP t i x).1).1).1⟩
noncomputable def atP(t:Tp)(i:Nt)(m:Int):Pol×Int:=if(realP t).2≠0 then(zPol,(realP t).2)else atGo t i (ordP i m) (realP t).1 zPol
noncomputable def preV(t:Tp)(i:Nt)(m:Int):Int:=if compB t=true/\ntB i=true then(if 0<=m/\m<10080 then chkP t i else 2)else 1
noncomputable def atV(t:Tp)(i:Nt)(m:Int):Pol×Int:=if preV t i m≠0 then(zPol,preV t i m)else atP t i m
theorem fstE_zero{α:Type}{f:α->Int}:∀{l:List α},fstE f l=0->∀x,x∈l->f x=0
 |[],_,x,hx=>by simp at hx
 |y::l,h,x,hx=>by
  unfold fstE at h
  split at h
  ·rename_i hn;exact absurd h hn
  ·rename_i hn
   rcases List.mem_cons.1 hx with rfl|hx
   ·exact Decidable.byContradiction fun h=>hn h
   ·exact fstE_zero h x hx
theorem chk_stm{t:Tp}{i:Nt}(h:chkP t i=0):∀x,x∈i.sts->(stmP t i x).2=0:=by
 intro x hx
 rw[chkP]at h
 simp only at h
 split at h
 ·rename_i hn;exact absurd h hn
 split at h
 ·rename_i hn;exact absurd h hn
 split at h
 ·rename_i hn;exact absurd h hn
 rename_i hn
 have:=fstE_zero (Decidable.byContradiction fun h=>hn h) x hx
 split at this
 ·rename_i h1;exact absurd this h1
 ·rename_i h1;exact Decidable.byContradiction fun h=>h1 h
/-! the sets of the classes as a map -/
noncomputable def mapS(g:ByteArray->Option (List Bx)):Value->Option AV
 |.string c=>(g c).map encXs
 |_=>none
def updS(g:ByteArray->Option (List Bx))(c:ByteArray)(s:List Bx):ByteArray->Option (List Bx):=fun d=>if d=c then some s else g d
theorem mapS_upd(g:ByteArray->Option (List Bx))(c:ByteArray)(s:List Bx):mapS (updS g c s)=updM (mapS g) (.string c) (encXs s):=by
 funext v
 unfold updM
 cases v with
 |string d=>
  by_cases h:d=c
  ·subst h;simp[mapS,updS]
  ·simp[mapS,updS,h]
 |_=>simp[mapS]
structure MapR (g:ByteArray->Option (List Bx)) (l:List Insp):Prop where
 mem:∀x:Insp,x∈l↔g x.cls=some x.set/\x.set≠[]
 set:∀c s,g c=some s->setB s=true
 od:l.Pairwise fun x y=>ltS x.cls y.cls=true
theorem mapR_nil:MapR (fun _=>none) []:=⟨fun x=>by simp,fun c s h=>by simp at h,List.Pairwise.nil⟩
theorem comb_nilR{s:List Bx}(h:setB s=true):combP orB s []=(s,0):=by
 have hl:=(setB_pset h).len
 have hc:canB 5 s=true:=by
  unfold setB at h
  simp only[Bool.and_eq_true]at h
  exact h.2.2
 have e:cano orB 5 s []=s:=by
  have:=(canB_iff 5 s zd (fun x hx f hf _=>okL_set h x hx f hf) (fun h=>by cases h)).1 hc
  rw[this,show(zeroTo 5:Bx->Bx)=id from funext fun b=>zeroTo_five b,List.map_id]
 rw[combP_set h setB_nil,e,limP,limE,if_neg zo,if_neg zo]
theorem comb_nilL{s:List Bx}(h:setB s=true):combP orB [] s=(s,0):=by
 have e:combP orB [] s=combP orB s []:=by
  rw[combP_set h setB_nil,combP_set setB_nil h,cano_ext2 orB orB 5 [] s s [] zd fun p _=>by simp[orB,Bool.or_comm]]
 rw[e,comb_nilR h]
theorem putG_mem{c:ByteArray}{s:List Bx}:∀{l:List Insp},l.Pairwise (fun x y=>ltS x.cls y.cls=true)->((∀y,y∈l->y.cls≠c)->(putG l c s).2=0/\(∀x,x∈(putG l c s).1↔x=⟨c,s⟩\/x∈l))/\
  (∀y,y∈l->y.cls=c->(putG l c s).2=(combP orB y.set s).2/\∀x,x∈(putG l c s).1↔x=⟨c,(combP orB y.set s).1⟩\/(x∈l/\x.cls≠c))/\
  ((putG l c s).1.Pairwise fun x y=>ltS x.cls y.cls=true)/\(∀d,ltS d c=true->(∀y,y∈l->ltS d y.cls=true)->∀y,y∈(putG l c s).1->ltS d y.cls=true)
 |[],_=>⟨fun _=>⟨rfl,fun x=>by simp[putG]⟩,fun y h=>by simp at h,by simp[putG],fun d h _ y hy=>by simp[putG]at hy;rw[hy];exact h⟩
 |z::r,hs=>by
  obtain⟨s1,s2⟩:=List.pairwise_cons.1 hs
  obtain⟨i1,i2,i3,i4⟩:=putG_mem (c:=c) (s:=s) s2
  unfold putG
  by_cases h1:ltS z.cls c=true
  ·have hzc:z.cls≠c:=fun e=>by rw[e,ltS_irr]at h1;cases h1
   simp only[h1,if_true]
   refine⟨fun hn=>?_,fun y hy hc=>?_,List.pairwise_cons.2 ⟨i4 _ h1 s1,i3⟩,fun d hd hl y hy=>?_⟩
   ·obtain⟨j1,j2⟩:=i1 fun y hy=>hn y (List.mem_cons_of_mem _ hy)
    exact⟨j1,fun x=>by rw[List.mem_cons,j2 x,List.mem_cons];exact⟨fun h=>by rcases h with h|h|h<;>simp[h],fun h=>by rcases h with h|h|h<;>simp[h]⟩⟩
   ·rcases List.mem_cons.1 hy with rfl|hy
    ·exact absurd hc hzc
    ·obtain⟨j1,j2⟩:=i2 y hy hc
     refine⟨j1,fun x=>?_⟩
     rw[List.mem_cons,j2 x,List.mem_cons]
     constructor
     ·rintro(rfl|h|⟨h,h'⟩)
      ·exact .inr ⟨.inl rfl,hzc⟩
      ·exact .inl h
      ·exact .inr ⟨.inr h,h'⟩
     ·rintro(h|⟨rfl|h,h'⟩)
      ·exact .inr (.inl h)
      ·exact .inl rfl
      ·exact .inr (.inr ⟨h,h'⟩)
   ·rcases List.mem_cons.1 hy with rfl|hy
    ·exact hl _ zx
    ·exact i4 d hd (fun w hw=>hl w (List.mem_cons_of_mem _ hw)) y hy
  ·rw[if_neg h1]
   by_cases h2:sEq z.cls c=true
   ·have hzc:z.cls=c:=sEq_iff.1 h2
    have hne:∀w,w∈r->w.cls≠c:=fun w hw e=>by have:=s1 w hw;rw[hzc,e,ltS_irr]at this;cases this
    rw[if_pos h2]
    refine⟨fun hn=>absurd hzc (hn z zx),fun y hy hc=>?_,?_,fun d hd hl y hy=>?_⟩
    ·rcases List.mem_cons.1 hy with rfl|hy
     ·refine⟨rfl,fun x=>?_⟩
      simp only[List.mem_cons]
      constructor
      ·rintro(rfl|h)
       ·exact .inl (by rw[hzc])
       ·exact .inr ⟨.inr h,hne x h⟩
      ·rintro(rfl|⟨rfl|h,h'⟩)
       ·exact .inl (by rw[hzc])
       ·exact absurd hzc h'
       ·exact .inr h
     ·exact absurd hc (hne y hy)
    ·exact List.pairwise_cons.2 ⟨fun w hw=>s1 w hw,s2⟩
    ·simp only[List.mem_cons]at hy
     rcases hy with rfl|hy
     ·exact hl z zx
     ·exact hl y (List.mem_cons_of_mem _ hy)
   ·have hzc:z.cls≠c:=fun e=>h2 (sEq_iff.2 e)
    have hlt:ltS c z.cls=true:=bl_total _ _ (by simpa[ltS]using h1) (by simpa[sEq]using h2)
    have htr:∀w,w∈r->ltS c w.cls=true:=fun w hw=>bl_trans _ _ _ hlt (s1 w hw)
    have hne:∀w,w∈r->w.cls≠c:=fun w hw e=>by have:=htr w hw;rw[e,ltS_irr]at this;cases this
    rw[if_neg h2]
    refine⟨fun hn=>⟨rfl,fun x=>by simp⟩,fun y hy hc=>?_,?_,fun d hd hl y hy=>?_⟩
    ·rcases List.mem_cons.1 hy with rfl|hy
     ·exact absurd hc hzc
     ·exact absurd hc (hne y hy)
    ·refine List.pairwise_cons.2 ⟨fun w hw=>?_,hs⟩
     rcases List.mem_cons.1 hw with rfl|hw
     ·exact hlt
     ·exact htr w hw
    ·simp only[List.mem_cons]at hy
     rcases hy with rfl|rfl|hy
     ·exact hd
     ·exact hl _ zx
     ·exact hl y (List.mem_cons_of_mem _ hy)
theorem or_ne{a b:List Bx}(ha:setB a=true)(hb:setB b=true)(hn:b≠[])(he:(combP orB a b).2=0):(combP orB a b).1≠[]:=by
 rw[combP_set ha hb]at he⊢
 simp only[limE]at he
 split at he
 ·cases he
 rename_i hl
 simp only[limP]
 rw[if_neg hl]
 intro hc
 rw[cano_nil_mem]at hc
 obtain⟨x,hx⟩:=List.exists_mem_of_ne_nil b hn
 obtain⟨p,hp,hpx⟩:=box_point (okL_set hb x hx)
 have:=hc p hp
 rw[memK_iff.2 ⟨x,hx,hpx⟩]at this
 simp[orB]at this
theorem MapR.put{g:ByteArray->Option (List Bx)}{l:List Insp}(h:MapR g l){c:ByteArray}(hc:sEq c ⟨#[]⟩=false){s:List Bx}(hs:setB s=true):
  (putP l c s).2=(combP orB ((g c).getD []) s).2/\((putP l c s).2=0->MapR (updS g c (combP orB ((g c).getD []) s).1) (putP l c s).1):=by
 unfold putP
 by_cases hs0:s=[]
 ·subst hs0
  rw[if_pos (.inr rfl)]
  have hg:setB ((g c).getD [])=true:=by
   cases hgc:g c with
   |none=>exact setB_nil
   |some u=>exact h.set c u hgc
  rw[comb_nilR hg]
  refine⟨rfl,fun _=>⟨fun x=>?_,fun d u hu=>?_,h.od⟩⟩
  ·rw[h.mem x]
   unfold updS
   by_cases e:x.cls=c
   ·rw[if_pos e,e]
    cases hgc:g c with
    |none=>
     simp only[Option.getD_none,Option.some.injEq]
     exact⟨fun h=>(by cases h.1),fun h=>absurd h.1.symm h.2⟩
    |some u=>simp
   ·rw[if_neg e]
  ·unfold updS at hu
   split at hu
   ·cases hu;exact hg
   ·exact h.set d u hu
 ·rw[if_neg (by rw[hc];rintro(h|h);cases h;exact hs0 h)]
  obtain⟨p1,p2,p3,_⟩:=putG_mem (c:=c) (s:=s) h.od
  by_cases hex:∃y,y∈l/\y.cls=c
  ·obtain⟨y,hy,hyc⟩:=hex
   obtain⟨q1,q2⟩:=p2 y hy hyc
   have hgy:=((h.mem y).1 hy).1
   rw[hyc]at hgy
   rw[hgy]
   simp only[Option.getD_some]
   refine⟨q1,fun he=>⟨fun x=>?_,fun d u hu=>?_,p3⟩⟩
   ·rw[q2 x]
    unfold updS
    by_cases e:x.cls=c
    ·rw[if_pos e]
     have hne:=or_ne (h.set c _ hgy) hs hs0 (by rw[<-q1];exact he)
     constructor
     ·rintro(rfl|⟨_,h'⟩)
      ·exact⟨rfl,hne⟩
      ·exact absurd e h'
     ·rintro⟨h1,_⟩
      left
      cases x
      simp only at e h1
      rw[e,Option.some.inj h1]
    ·rw[if_neg e,h.mem x]
     constructor
     ·rintro(rfl|⟨h,_⟩)
      ·exact absurd rfl e
      ·exact h
     ·exact fun h=>.inr ⟨h,e⟩
   ·unfold updS at hu
    split at hu
    ·cases hu;exact setB_combP ..
    ·exact h.set d u hu
  ·have hn:∀y,y∈l->y.cls≠c:=fun y hy e=>hex ⟨y,hy,e⟩
   obtain⟨q1,q2⟩:=p1 hn
   have hgc:(g c).getD []=[]:=by
    cases hgc:g c with
    |none=>rfl
    |some u=>
     simp only[Option.getD_some]
     refine Decidable.byContradiction fun hu=>?_
     exact hn ⟨c,u⟩ ((h.mem ⟨c,u⟩).2 ⟨hgc,hu⟩) rfl
   rw[hgc,comb_nilL hs]
   refine⟨q1,fun he=>⟨fun x=>?_,fun d u hu=>?_,p3⟩⟩
   ·rw[q2 x,h.mem x]
    unfold updS
    by_cases e:x.cls=c
    ·rw[if_pos e]
     constructor
     ·rintro(rfl|⟨h1,h2⟩)
      ·exact⟨rfl,hs0⟩
      ·rw[e]at h1;rw[h1]at hgc;exact absurd hgc h2
     ·rintro⟨h1,_⟩
      left
      cases x
      simp only at e h1
      rw[e,Option.some.inj h1]
    ·rw[if_neg e]
     constructor
     ·rintro(rfl|h)
      ·exact absurd rfl e
      ·exact h
     ·exact .inr
   ·unfold updS at hu
    split at hu
    ·cases hu;exact hs
    ·exact h.set d u hu
theorem coIns(G:FuncId)(C:List AV)(c:Nat->Nat->Int)(l:List Nat)(hl:l.length<=100000)
  (hc:∀x y,x∈l->y∈l->∀{K:KT},K (.v (.int .i64 (c x y))) []->ACall Tryz.prog G [vN x,vN y,.fp C] [] K){K:KT}
  (hK:K (.tup []) [.arr 1 ((isort (fun x y=>decide (c x y<0)) l).map vN)]):
  ACall Tryz.prog 254 [.os 0 1 0 l.length,.v (.int .i64 0),.v (.int .i64 l.length),.fn (.func G) [] [.fp C]] [.arr 1 (l.map vN)] K:=by
 refine ofoIns rfl rfl ?_
 (repeat' ((conv=>whnf);first|refine zG ?_|apply zA|(apply zI;intro h)|exact zT));(all_goals conv=>whnf)
 refine Lp.intro Nat (fun i=>⟨1,[(0,.arr 1 ((isort (fun x y=>decide (c x y<0)) (l.take i)++l.drop i).map vN))],[(0,.os 0 1 0 l.length),(1,.v (.int .i64 0)),(2,.v (.int .i64 l.length)),(3,.fn (.func G) [] [.fp C]),(8,.v (.int .i64 i))]⟩)
  (fun i=>1<=i/\(i<=l.length\/l.length=0)) (fun i=>l.length-i) 1 ?_ ?_ ?_
 ·omega
 ·have e:isort (fun x y=>decide (c x y<0)) (l.take 1)++l.drop 1=l:=by cases l<;>simp[isort,sortRev,insRev]
  rw[e]
  (exact leA)
 intro i ⟨hi1,hi2⟩
 rcases Nat.lt_or_ge i l.length with hil|hil
 ·obtain⟨x,hx⟩:=gex hil
  have hxm:=List.mem_of_getElem? hx
  have hd:l.drop i=x::l.drop (i+1):=by
   rw[List.getElem?_eq_getElem hil]at hx
   rw[<-Option.some.inj hx,<-List.drop_eq_getElem_cons hil]
  generalize hlt:(fun x y=>decide (c x y<0))=lt at*
  have hsl:(sortRev lt (l.take i)).length=i:=by rw[sortRev_length];simp;omega
  (repeat' ((conv=>whnf);first|refine zG ?_|apply zA|(apply zI;intro h)|exact zT));(all_goals conv=>whnf)
  refine Lp.intro (List Nat×List Nat) (fun g=>⟨1,[(0,.arr 1 ((g.1++x::(g.2++l.drop (i+1))).map vN))],[(0,.os 0 1 0 l.length),(1,.v (.int .i64 0)),(2,.v (.int .i64 l.length)),(3,.fn (.func G) [] [.fp C]),(8,.v (.int .i64 i)),(9,.v (.int .i64 g.1.length))]⟩)
   (fun g=>sortRev lt (l.take i)=g.2.reverse++g.1.reverse/\∀y,y∈g.2->lt x y=true) (fun g=>g.1.length) ((sortRev lt (l.take i)).reverse,[]) ?_ ?_ ?_
  ·exact⟨by simp,fun y hy=>by simp at hy⟩
  ·rw[hd,isort]
   have e9:((i:Nat):Int)=((sortRev lt (l.take i)).reverse.length:Nat):=by rw[List.length_reverse,hsl]
   simp only[List.nil_append]
   rw[<-e9]
   (exact leA)
  rintro⟨A,B⟩ ⟨hAB,hB⟩
  simp only at hAB hB⊢
  have hlen:A.length+B.length=i:=by rw[hAB]at hsl;simp at hsl;omega
  have fin:(∀a A',A.reverse=a::A'->lt x a=false)->isort lt (l.take (i+1))++l.drop (i+1)=A++x::(B++l.drop (i+1)):=by
   intro h
   rw[isort,sortRev_succ hx,hAB,insRev_at (fun y hy=>hB y (by simpa using hy)) h]
   simp
  rcases List.eq_nil_or_concat A with hA|⟨A',a,hA⟩
  ·subst hA
   (repeat' ((conv=>whnf);first|refine zG ?_|apply zA|(apply zI;intro h)|exact zT));(all_goals conv=>whnf)
   refine⟨i+1,⟨by omega,by omega⟩,by omega,?_⟩
   rw[fin (fun a A' h=>by simp at h)]
   (exact leA)
  ·rw[List.concat_eq_append]at hA
   subst hA
   have hma:a∈l:=by
    have:a∈sortRev lt (l.take i):=by rw[hAB];simp
    rw[sortRev,foldl_ins_mem]at this
    exact List.mem_of_mem_take (this.resolve_right zx)
   have hcx:lt x a=decide (c x a<0):=by rw[<-hlt]
   have hj:(((A'++[a]).length:Nat):Int)-1=(A'.length:Nat):=by simp
   have g1:(A'++[a]++x::(B++l.drop (i+1)))[0+(A'++[a]).length]? =some x:=by simp
   have g2:(A'++[a]++x::(B++l.drop (i+1)))[0+A'.length]? =some a:=by simp
   have n1:(A'++[a]).length<l.length:=by omega
   have n2:A'.length<l.length:=by simp at n1;omega
   have n3:0<(A'++[a]).length:=by simp
   have g3:((List.map vN (A'++[a]++x::(B++l.drop (i+1)))).set (0+(A'++[a]).length) (vN a))[0+A'.length]? =some (vN a):=by
    rw[List.getElem?_set_ne zx,List.getElem?_map,g2];rfl
   have hset:((List.map vN (A'++[a]++x::(B++l.drop (i+1)))).set (0+(A'++[a]).length) (vN a)).set (0+A'.length) (vN x)=List.map vN (A'++x::((a::B)++l.drop (i+1))):=by
    rw[<-List.map_set,<-List.map_set]
    congr 1
    simp
   (repeat' ((conv=>whnf);first|(with_reducible first|refine in_nat n1 ?_|refine In.intro A'.length hj n2 ?_|refine ix_map g1 ?_|refine ix_map g2 ?_|refine Ix.intro g3 ?_|refine hc x a hxm hma ?_)|refine zG ?_|apply zA|(apply zI;intro h)|exact zT));(all_goals conv=>whnf)
   all_goals first
    |(refine⟨i+1,⟨by omega,by omega⟩,by omega,?_⟩
      rw[fin (fun a0 A0 h0=>by simp at h0;obtain⟨rfl,_⟩:=h0;rw[hcx];exact decide_eq_false zw)]
      (exact leA)
      done)
    |(refine⟨(A',a::B),⟨by rw[hAB];simp,fun y hy=>?_⟩,by simp,?_⟩
      ·rcases List.mem_cons.1 hy with rfl|hy
       ·rw[hcx];exact decide_eq_true zw
       ·exact hB y hy
      ·simp only
       rw[hj,<-hset]
       (exact leA))
 ·have hll:l.length<=i:=hil
  (repeat' ((conv=>whnf);first|refine zG ?_|apply zA|(apply zI;intro h)|exact zT));(all_goals conv=>whnf)
  rw[List.take_of_length_le hll,List.drop_eq_nil_of_le hll,List.append_nil]
  exact hK
theorem coInsI(G:FuncId)(c:Insp->Insp->Int)(l:List Insp)(hl:l.length<=100000)
  (hc:∀x y,x∈l->y∈l->∀{K:KT},K (.v (.int .i64 (c x y))) []->ACall Tryz.prog G [encIn x,encIn y] [] K){K:KT}
  (hK:K (.tup []) [.arr 2 ((isort (fun x y=>decide (c x y<0)) l).map encIn)]):
  ACall Tryz.prog 200 [.os 0 2 0 l.length,.v (.int .i64 0),.v (.int .i64 l.length),.fn (.func G) [] []] [.arr 2 (l.map encIn)] K:=by
 refine ofoInsI rfl rfl ?_
 (repeat' ((conv=>whnf);first|refine zG ?_|apply zA|(apply zI;intro h)|exact zT));(all_goals conv=>whnf)
 refine Lp.intro Nat (fun i=>⟨1,[(0,.arr 2 ((isort (fun x y=>decide (c x y<0)) (l.take i)++l.drop i).map encIn))],[(0,.os 0 2 0 l.length),(1,.v (.int .i64 0)),(2,.v (.int .i64 l.length)),(3,.fn (.func G) [] []),(8,.v (.int .i64 i))]⟩)
  (fun i=>1<=i/\(i<=l.length\/l.length=0)) (fun i=>l.length-i) 1 ?_ ?_ ?_
 ·omega
 ·have e:isort (fun x y=>decide (c x y<0)) (l.take 1)++l.drop 1=l:=by cases l<;>simp[isort,sortRev,insRev]
  rw[e]
  (exact leA)
 intro i ⟨hi1,hi2⟩
 rcases Nat.lt_or_ge i l.length with hil|hil
 ·obtain⟨x,hx⟩:=gex hil
  have hxm:=List.mem_of_getElem? hx
  have hd:l.drop i=x::l.drop (i+1):=by
   rw[List.getElem?_eq_getElem hil]at hx
   rw[<-Option.some.inj hx,<-List.drop_eq_getElem_cons hil]
  generalize hlt:(fun x y=>decide (c x y<0))=lt at*
  have hsl:(sortRev lt (l.take i)).length=i:=by rw[sortRev_length];simp;omega
  (repeat' ((conv=>whnf);first|refine zG ?_|apply zA|(apply zI;intro h)|exact zT));(all_goals conv=>whnf)
  refine Lp.intro (List Insp×List Insp) (fun g=>⟨1,[(0,.arr 2 ((g.1++x::(g.2++l.drop (i+1))).map encIn))],[(0,.os 0 2 0 l.length),(1,.v (.int .i64 0)),(2,.v (.int .i64 l.length)),(3,.fn (.func G) [] []),(8,.v (.int .i64 i)),(9,.v (.int .i64 g.1.length))]⟩)
   (fun g=>sortRev lt (l.take i)=g.2.reverse++g.1.reverse/\∀y,y∈g.2->lt x y=true) (fun g=>g.1.length) ((sortRev lt (l.take i)).reverse,[]) ?_ ?_ ?_
  ·exact⟨by simp,fun y hy=>by simp at hy⟩
  ·rw[hd,isort]
   have e9:((i:Nat):Int)=((sortRev lt (l.take i)).reverse.length:Nat):=by rw[List.length_reverse,hsl]
   simp only[List.nil_append]
   rw[<-e9]
   (exact leA)
  rintro⟨A,B⟩ ⟨hAB,hB⟩
  simp only at hAB hB⊢
  have hlen:A.length+B.length=i:=by rw[hAB]at hsl;simp at hsl;omega
  have fin:(∀a A',A.reverse=a::A'->lt x a=false)->isort lt (l.take (i+1))++l.drop (i+1)=A++x::(B++l.drop (i+1)):=by
   intro h
   rw[isort,sortRev_succ hx,hAB,insRev_at (fun y hy=>hB y (by simpa using hy)) h]
   simp
  rcases List.eq_nil_or_concat A with hA|⟨A',a,hA⟩
  ·subst hA
   (repeat' ((conv=>whnf);first|refine zG ?_|apply zA|(apply zI;intro h)|exact zT));(all_goals conv=>whnf)
   refine⟨i+1,⟨by omega,by omega⟩,by omega,?_⟩
   rw[fin (fun a A' h=>by simp at h)]
   (exact leA)
  ·rw[List.concat_eq_append]at hA
   subst hA
   have hma:a∈l:=by
    have:a∈sortRev lt (l.take i):=by rw[hAB];simp
    rw[sortRev,foldl_ins_mem]at this
    exact List.mem_of_mem_take (this.resolve_right zx)
   have hcx:lt x a=decide (c x a<0):=by rw[<-hlt]
   have hj:(((A'++[a]).length:Nat):Int)-1=(A'.length:Nat):=by simp
   have g1:(A'++[a]++x::(B++l.drop (i+1)))[0+(A'++[a]).length]? =some x:=by simp
   have g2:(A'++[a]++x::(B++l.drop (i+1)))[0+A'.length]? =some a:=by simp
   have n1:(A'++[a]).length<l.length:=by omega
   have n2:A'.length<l.length:=by simp at n1;omega
   have n3:0<(A'++[a]).length:=by simp
   have g3:((List.map encIn (A'++[a]++x::(B++l.drop (i+1)))).set (0+(A'++[a]).length) (encIn a))[0+A'.length]? =some (encIn a):=by
    rw[List.getElem?_set_ne zx,List.getElem?_map,g2];rfl
   have hset:((List.map encIn (A'++[a]++x::(B++l.drop (i+1)))).set (0+(A'++[a]).length) (encIn a)).set (0+A'.length) (encIn x)=List.map encIn (A'++x::((a::B)++l.drop (i+1))):=by
    rw[<-List.map_set,<-List.map_set]
    congr 1
    simp
   (repeat' ((conv=>whnf);first|(with_reducible first|refine in_nat n1 ?_|refine In.intro A'.length hj n2 ?_|refine ix_map g1 ?_|refine ix_map g2 ?_|refine Ix.intro g3 ?_|refine hc x a hxm hma ?_)|refine zG ?_|apply zA|(apply zI;intro h)|exact zT));(all_goals conv=>whnf)
   all_goals first
    |(refine⟨i+1,⟨by omega,by omega⟩,by omega,?_⟩
      rw[fin (fun a0 A0 h0=>by simp at h0;obtain⟨rfl,_⟩:=h0;rw[hcx];exact decide_eq_false zw)]
      (exact leA)
      done)
    |(refine⟨(A',a::B),⟨by rw[hAB];simp,fun y hy=>?_⟩,by simp,?_⟩
      ·rcases List.mem_cons.1 hy with rfl|hy
       ·rw[hcx];exact decide_eq_true zw
       ·exact hB y hy
      ·simp only
       rw[hj,<-hset]
       (exact leA))
 ·have hll:l.length<=i:=hil
  (repeat' ((conv=>whnf);first|refine zG ?_|apply zA|(apply zI;intro h)|exact zT));(all_goals conv=>whnf)
  rw[List.take_of_length_le hll,List.drop_eq_nil_of_le hll,List.append_nil]
  exact hK
theorem coSort(G:FuncId)(C:List AV)(c:Nat->Nat->Int)(l:List Nat)(hl:l.length<20)
  (hc:∀x y,x∈l->y∈l->∀{K:KT},K (.v (.int .i64 (c x y))) []->ACall Tryz.prog G [vN x,vN y,.fp C] [] K){K:KT}
  (hK:K (.tup []) [.arr 1 ((isort (fun x y=>decide (c x y<0)) l).map vN)]):
  ACall Tryz.prog 99 [.os 0 1 0 l.length,.fn (.func G) [] [.fp C]] [.arr 1 (l.map vN)] K:=by
 have hs:∀{K:KT},K (.tup []) [.arr 1 ((isort (fun x y=>decide (c x y<0)) l).map vN)]->ACall Tryz.prog 183 [.os 0 1 0 l.length,.v (.int .i64 l.length),.fn (.func G) [] [.fp C]] [.arr 1 (l.map vN)] K:=by
  intro K hK
  refine ofoStab rfl rfl ?_
  (repeat' ((conv=>whnf);first|(with_reducible first|refine Lp.times 2 ?_|refine coIns G C c l zo hc ?_)|refine zG ?_|apply zA|(apply zI;intro h)|exact zT));(all_goals conv=>whnf)
  exact hK
 refine ofoSort rfl rfl ?_
 (repeat' ((conv=>whnf);first|(with_reducible refine hs ?_)|refine zG ?_|apply zA|(apply zI;intro h)|exact zT));(all_goals conv=>whnf)
 exact hK
theorem coSortI(G:FuncId)(c:Insp->Insp->Int)(l:List Insp)(hl:l.length<=12)
  (hc:∀x y,x∈l->y∈l->∀{K:KT},K (.v (.int .i64 (c x y))) []->ACall Tryz.prog G [encIn x,encIn y] [] K){K:KT}
  (hK:K (.tup []) [.arr 2 ((isort (fun x y=>decide (c x y<0)) l).map encIn)]):
  ACall Tryz.prog 50 [.os 0 2 0 l.length,.fn (.func G) [] []] [.arr 2 (l.map encIn)] K:=by
 have hs:∀(n:Int) {K:KT},K (.tup []) [.arr 2 ((isort (fun x y=>decide (c x y<0)) l).map encIn)]->ACall Tryz.prog 115 [.os 0 2 0 l.length,.v (.int .i64 0),.v (.int .i64 l.length),.v (.int .i64 n),.fn (.func G) [] []] [.arr 2 (l.map encIn)] K:=by
  intro n K hK
  refine ofoPdq rfl rfl ?_
  (repeat' ((conv=>whnf);first|(with_reducible first|refine Lp.times 1 ?_|refine coInsI G c l zo hc ?_)|refine zG ?_|apply zA|(apply zI;intro h)|exact zT));(all_goals conv=>whnf)
  all_goals exact hK
 refine ofoSortI rfl rfl ?_
 (repeat' ((conv=>whnf);first|(with_reducible first|refine csLen l.length zo fun n _=>?_|refine hs _ ?_)|refine zG ?_|apply zA|(apply zI;intro h)|exact zT));(all_goals conv=>whnf)
 exact hK
end Go.Proofs.YtbdikofefjljoaaGreatDoor
