/- The policy is the same at all minutes of a segment: the statement PolicySegmentsCardSaid holds, for every input, without a condition of ours (its card ties the package-level variables to the program's text). -/
import Derived.Test.YtbdikofefjljoaaGreatDoorK35
set_option linter.unusedVariables false
set_option linter.unusedSimpArgs false
set_option maxRecDepth 100000
set_option maxHeartbeats 4000000
namespace Go.Proofs.YtbdikofefjljoaaGreatDoor
open Go Go.Vm
theorem coLNet{K:KT}(hK:K (encT netR) []):ACall Tryz.prog 41 [] [] K:=by
 refine ACall.weak (ofoLNet rfl rfl ?_)
 (repeat' ((conv=>whnf);first|(refine cwSub0 ?_)|(refine cwSub4 ?_)|refine zG ?_|apply zA|(apply zI;intro h)|exact zT));(all_goals conv=>whnf)
 exact⟨encT netR,Weak.agg (ys:=[_,.lst [],_,.lst [],_]) ⟨Weak.refl,Weak.nils,Weak.refl,Weak.nils,Weak.refl,trivial⟩,hK⟩
theorem coSan{K:KT}(hK:K (.sb true) []):ACall Tryz.prog 19 [] [] K:=by
 have sat:∀{K:KT},K (.tup [encPol ⟨qsnP,[]⟩,.v (.int .i64 0)]) []->ACall Tryz.prog 12 [encT netR,encNt qsnN,.v (.int .i64 0)] [] K:=fun h=>coAt netR zd zd qsnN qsnN_bnd zd 0 (by rw[qsnN_atV];exact h)
 have sdc:∀{K:KT},K (.tup [.sb false,.v (.int .i64 1)]) []->ACall Tryz.prog 21 [encT netR,encNt qsnN,.v (.int .i64 0),encHd qsnH] [] K:=fun h=>coDec netR zd zd qsnN qsnN_bnd zd 0 qsnH qsnH_ok (by rw[qsnN_dec];exact h)
 have sc1:∀{K:KT},K (.sb false) []->ACall Tryz.prog 22 [encXs qsnP,encHd qsnH] [] K:=fun h=>eyCont qsnP qsnH qsnH_ok (setBlen (setB_combP ..)) (by rw[qsn_h];exact h)
 have sc2:∀{K:KT},K (.sb true) []->ACall Tryz.prog 22 [encXs qsnP,encHd qsnK] [] K:=fun h=>eyCont qsnP qsnK qsnK_ok (setBlen (setB_combP ..)) (by rw[qsn_k];exact h)
 have svl:∀{K:KT},K (.sb true) []->ACall Tryz.prog 23 [encT netR,encPol ⟨qsnP,[]⟩] [] K:=fun h=>cyVal netR ⟨qsnP,[]⟩ zd (setBlen (setB_combP ..)) zd (fun x hx=>by simp at hx) (by rw[polB_true qsnN_pol];exact h)
 have sod:∀{K:KT},K (.lst ([1,0].map vN)) []->ACall Tryz.prog 37 [encNt qsnN,.v (.int .i64 0)] [] K:=fun h=>coOrd qsnN qsnN_bnd zd 0 (by rw[ordV,if_pos ⟨ntB_true qsnN_ok,by decide⟩,qsn_ord];exact h)
 refine ACall.bool (ofoSan rfl rfl ?_)
 (repeat' ((conv=>whnf);first|(with_reducible refine coLNet ?_)|(refine sat ?_)|(refine sdc ?_)|(refine sc1 ?_)|(refine sc2 ?_)|(refine svl ?_)|(refine sod ?_)|(refine in_c zd ?_)|(refine Ix.intro rfl ?_)|refine zG ?_|apply zA|(apply zI;intro h)|exact zT));(all_goals conv=>whnf)
 all_goals first
  |exact fin_s hK rfl
  |exact fin_t hK rfl
  |exact absurd rfl h
theorem coSameP(p:Pol)(hl:p.allow.length<1000000000)(hi:p.insp.length<1000000000)(hs:∀x,x∈p.insp->x.set.length<1000000000){K:KT}(hK:K (.sb true) []):ACall Tryz.prog 14 [encPol p,encPol p] [] K:=by
 have s1:∀{K:KT},K (.sb true) []->ACall Tryz.prog 61 [encXs p.allow,encXs p.allow] [] K:=fun h=>cr4Same _ _ zo zo (by rw[decide_eq_true rfl];exact h)
 refine ACall.bool (ofoSame rfl rfl ?_)
 (repeat' ((conv=>whnf);first|(with_reducible refine s1 ?_)|refine zG ?_|apply zA|(apply zI;intro h)|exact zT));(all_goals conv=>whnf)
 all_goals first
  |(exfalso;simp_all;done)
  |skip
 refine Lp.intro Nat (fun k=>⟨2,[(0,boxPol p),(1,boxPol p)],[(2,.op 0 0),(3,.op 1 0),(5,.v (.int .i64 k))]⟩) (fun k=>k<=p.insp.length) (fun k=>p.insp.length-k) 0 (Nat.zero_le _) ?_ ?_
 ·(exact leA)
 intro k hk
 rcases Nat.lt_or_ge k p.insp.length with hkl|hkl
 ·obtain⟨y,hy⟩:=gex hkl
  have hyl:=hs y (List.mem_of_getElem? hy)
  have s2:∀{K:KT},K (.sb true) []->ACall Tryz.prog 61 [encXs y.set,encXs y.set] [] K:=fun h=>cr4Same _ _ zo zo (by rw[decide_eq_true rfl];exact h)
  (repeat' ((conv=>whnf);first|(with_reducible first|refine in_map hkl ?_|refine ix_map hy ?_|refine s2 ?_)|refine zG ?_|apply zA|(apply zI;intro h)|exact zT));(all_goals conv=>whnf)
  all_goals first
   |(refine⟨k+1,hkl,by omega,?_⟩
     rw[Int.natCast_add,Int.natCast_one]
     (exact leA)
     done)
   |(exfalso;simp_all;done)
 ·(repeat' ((conv=>whnf);first|refine zG ?_|apply zA|(apply zI;intro h)|exact zT));(all_goals conv=>whnf)
  exact fin_t hK rfl
theorem isFst_of{S:List Int}{m f:Int}{n:Nat}(h1:f∈S)(h2:f<=m)(hn:S.length<=n)(h3:∀(j:Nat) s,j<n->S[j]? =some s->s<=m->s<=f):IsFst S m f:=⟨h1,h2,fun s hs hm=>by
 obtain⟨j,hj⟩:=List.mem_iff_getElem?.1 hs
 exact h3 j s (by have:=(List.getElem?_eq_some_iff.1 hj).1;omega) hj hm⟩
theorem cPolSeg(raw:List Int)(minute:Int)(hr:raw.length<=9223372036854775807):ACall Tryz.prog 9 [.lst (raw.map encI),.v (.int .i64 minute)] [] Yes:=by
 have h4:∀{pos:Nat} {K:KT} (hp:pos<=raw.length),(∀(t:Tp) (i:Nt) (m:Int) (pos':Nat),GTop t->t.devs.length<=3->ENt i->0<=m->m<10080->pos'<=raw.length->K (.tup [encT t,encNt i,.v (.int .i64 m)]) [tapeO raw pos'])->
  ACall Tryz.prog 11 [.op 0 0,.v (.int .i64 3),.v (.int .i64 3)] [tapeO raw pos] K:=fun hp h=>coNet 3 zd raw _ hp hr h
 refine ofoLSeg rfl rfl ?_
 (repeat' ((conv=>whnf);first|(with_reducible first|refine c9 raw ?_|refine h4 (Nat.zero_le _) fun t i m p1 ht htd hi m0 m1 hp1=>?_)|refine zG ?_|apply zA|(apply zI;intro h)|exact zT));(all_goals conv=>whnf)
 have hb:=bnd_ent hi
 have hc:=comp_top ht
 have hnt:=ntB_true hi.ok
 have he5:=ht.e5
 have hs4:=hi.t3
 have hseg:∀{K:KT},(∀S:List Int,SegL i S->S.length<=1000000000->K (.lst (S.map encI)) [])->ACall Tryz.prog 39 [encNt i] [] K:=fun h=>coSeg i hb hnt h
 have hat:∀(m:Int) {K:KT},K (.tup [encPol (atV t i m).1,.v (.int .i64 (atV t i m).2)]) []->ACall Tryz.prog 12 [encT t,encNt i,.v (.int .i64 m)] [] K:=fun m K h=>coAt t zo zo i hb zo m h
 have hsz:∀m:Int,0<=m->m<10080->(atV t i m).1.allow.length<1000000000/\(atV t i m).1.insp.length<1000000000/\∀x,x∈(atV t i m).1.insp->x.set.length<1000000000:=fun m m0 m1=>by
  by_cases he:(atV t i m).2=0
  ·obtain⟨hpre,hav,hae⟩:=atV_ok he
   have hpol:=atP_ok (m:=m) hc hnt hae
   rw[hav]
   refine⟨by have:=(setB_pset hpol.set).len;omega,by have:=atP_few (t:=t) (m:=m) hnt;omega,fun x hx=>?_⟩
   obtain⟨n,hn⟩:=List.mem_iff_getElem?.1 hx
   exact setBlen (hpol.insp n x hn).set
  ·rw[(err_atV hc hnt m0 m1).2 he]
   exact⟨by decide,by decide,fun x hx=>by cases hx⟩
 clear h4
 refine Jn.intro Int (fun m=>⟨3,[(0,boxT t),(1,boxNt i)],[(6,.op 0 0),(7,.op 1 0),(8,.v (.int .i64 m))]⟩) (fun m=>0<=m/\m<10080) ?_ ?_
 ·(repeat' ((conv=>whnf);first|(with_reducible first|refine nNext raw _ _ zo zw hr fun m2 p2 hm2 hp2=>?_|refine c37 minute 10080 zd zd fun m3 m30 m31=>?_)|refine zG ?_|apply zA|(apply zI;intro h)|exact zT));(all_goals conv=>whnf)
  all_goals first
   |(refine⟨m3,⟨m30,m31⟩,?_⟩
     (exact leA)
     done)
   |(refine⟨m,⟨m0,m1⟩,?_⟩
     (exact leA)
     done)
 clear m0 m1 m
 intro m ⟨m0,m1⟩
 (repeat' ((conv=>whnf);first|(with_reducible refine hseg fun S hS hSl=>?_)|refine zG ?_|apply zA|(apply zI;intro h)|exact zT));(all_goals conv=>whnf)
 ·refine Lp.intro (Nat×Int) (fun g=>⟨2,[(0,boxT t),(1,boxNt i)],[(6,.op 0 0),(7,.op 1 0),(8,.v (.int .i64 m)),(9,.lst (S.map encI)),(10,.v (.int .i64 g.2)),(11,.v (.int .i64 g.1))]⟩)
   (fun g=>g.1<=S.length/\(g.2∈S/\g.2<=m)/\∀(j:Nat) s,j<g.1->S[j]? =some s->s<=m->s<=g.2) (fun g=>S.length-g.1) (0,0) ⟨Nat.zero_le _,⟨(hS.mem 0).2 (.inl rfl),m0⟩,fun j s h=>absurd h (Nat.not_lt_zero _)⟩ ?_ ?_
  ·(exact leA)
  rintro⟨n,f⟩ ⟨hn,⟨hf1,hf2⟩,hf3⟩
  simp only at hn hf1 hf2 hf3⊢
  rcases Nat.lt_or_ge n S.length with hnl|hnl
  ·obtain⟨s,hs⟩:=gex hnl
   (repeat' ((conv=>whnf);first|(with_reducible first|refine in_map hnl ?_|refine ix_map hs ?_)|refine zG ?_|apply zA|(apply zI;intro h)|exact zT));(all_goals conv=>whnf)
   all_goals first
    |(refine⟨(n+1,s),⟨hnl,⟨List.mem_of_getElem? hs,by with_reducible assumption⟩,fun j u hj hu hum=>?_⟩,by simp only;omega,?_⟩
      ·rcases Nat.lt_or_ge j n with hjn|hjn
       ·have hlt:=List.pairwise_iff_getElem.1 hS.od j n zo hnl hjn
        rw[List.getElem?_eq_getElem zo]at hu hs
        rw[Option.some.inj hu,Option.some.inj hs]at hlt
        omega
       ·obtain rfl:j=n:=by omega
        rw[hs]at hu;cases hu;exact Int.le_refl _
      ·simp only
       rw[Int.natCast_add,Int.natCast_one]
       (exact leA)
      done)
    |(refine⟨(n+1,f),⟨hnl,⟨hf1,hf2⟩,fun j u hj hu hum=>?_⟩,by simp only;omega,?_⟩
      ·rcases Nat.lt_or_ge j n with hjn|hjn
       ·exact hf3 j u hjn hu hum
       ·obtain rfl:j=n:=by omega
        rw[hs]at hu;cases hu;omega
      ·simp only
       rw[Int.natCast_add,Int.natCast_one]
       (exact leA)
      done)
  ·have hfst:=isFst_of hf1 hf2 hnl hf3
   have heq:=seg_at t hnt hS m1 hfst
   have hszf:=hsz f (seg_pos hS f hf1) zo
   have h0:=seg_zero hS
   have hl0:0<S.length:=(List.getElem?_eq_some_iff.1 h0).1
   have hatf:=fun {K} h=>@hat f K h
   have hatm:=fun {K} h=>@hat m K (by rw[heq];exact h)
   generalize atV t i f=X at*
   obtain⟨p,e⟩:=X
   simp only at hszf hatf hatm
   (repeat' ((conv=>whnf);first|(with_reducible first|refine hatm ?_|refine hatf ?_)|(refine In.intro 0 rfl (by rw[List.length_map];exact hl0) ?_)|(with_reducible first|refine ix_map h0 ?_|refine coSameP p hszf.1 hszf.2.1 hszf.2.2 ?_|refine coSan ?_)|refine zG ?_|apply zA|(apply zI;intro h)|exact zT));(all_goals conv=>whnf)
   all_goals first
    |exact .inl rfl
    |exact .inr rfl
    |(exfalso;simp_all;done)
open Go Go.Vm Go.ChangeShapes Go.WideShapes Go.ChangeAt Go.RowKit
theorem tys2{P:Program}{d:Nat}{t0 t1:TypeId}:∀{xs:List AV},Tys P d [t0,t1] xs->∃a0 a1,xs=[a0,a1]/\Ty P d t0 a0/\Ty P d t1 a1
 |[a0,a1],⟨h0,h1,_⟩=>⟨a0,a1,rfl,h0,h1⟩
theorem and2{a b:Bool}(h1:a=true)(h2:b=true):(a&&b)=true:=by rw[h1,h2];rfl
theorem policySegments_lifted(os:Os)(started:os.Started)(H:Type)(enc:TypeId×Value->H):
  ReturnsInHanded {} Tryz.checked os 9 .any (fun w args=>(Rows.policySegmentsSpec.pre enc Tryz.prog Tryz.f9 [] false w args/\laidMetH Tryz.prog laid3 w)/\sizedMet enc Tryz.prog Tryz.f9 (OpenSpec.ofChange Rows.policySegmentsSpec) false w args)
   (Rows.policySegmentsSpec.post enc Tryz.prog Tryz.f9 false true false false):=by
 refine returnsInHanded_of_change_and (C:=Tryz.checked) (X:=fun w _=>laidMetH Tryz.prog laid3 w) (fun _ _ _ hh h=>h.of_heap hh) ownNone started zk Tryz.func9
  (ChangeSpec.witness_shaped (enc:=enc) (C:=Tryz.checked) (os:=os) (X:=fun w _=>laidMetH Tryz.prog laid3 w) false (World.doorLaid Tryz.prog 400 os) #[.slice none 0 0,.int .i64 0] 8 rfl (World.shaped_of_RefB zk zk) zk zk zk (door_met os _)) ?_
 intro W base args ds gs before hval0 hW _ _ hL _
 have hval:∀(j:Nat) t v,Tryz.f9.params[j]? =some t->args[j]? =some v->Value.okWide Tryz.prog W .any base t v:=hval0
 refine law_contract (P:=Tryz.prog) (t:=4) (d:=6) laidOut zk zk rfl rfl zk (fun ds hds=>?_) (fun xs hxs=>?_) (glob_of hL) hval hW
 ·have hds:ds.length=2:=hds.trans (show Tryz.f9.params.size=2 by kernel_rfl)
  match ds,hds with
  |[d0,d1],_=>rfl
 ·have hxs:Tys Tryz.prog 6 [22,3] xs:=Eq.mp (congrArg (fun l=>Tys Tryz.prog 6 l xs) (show Tryz.f9.params.toList=[22,3] by kernel_rfl)) hxs
  obtain⟨a0,a1,rfl,h0,h1⟩:=tys2 hxs
  obtain⟨raw0,rfl,hr0⟩:=ty_is (d:=4) h0
  obtain⟨n1,rfl,_⟩:=tz_int (d:=5) h1
  exact cPolSeg raw0 n1 hr0
theorem policySegments_j0:(Rows.policySegmentsRow.wf (OpenSpec.ofChange Rows.policySegmentsSpec))=true:=by kernel_rfl
theorem policySegments_j1:(laidOutB Tryz.pinned.checked.prog)=true:=by kernel_rfl
theorem policySegments_j2:(mapsRowed Tryz.pinned.checked.prog)=true:=by kernel_rfl
theorem policySegments_j3:(Tryz.f9.params.all (Tryz.pinned.checked.prog.readableRec ·))=true:=by kernel_rfl
theorem policySegments_j4:(namedTie Tryz.pinned.checked.prog Rows.policySegmentsRow.named Rows.policySegmentsSpec.vars)=true:=by kernel_rfl
theorem policySegments_j5:((Rows.policySegmentsRow.stops==[]))=true:=by kernel_rfl
theorem policySegments_j6:((Tryz.pinned.checked.prog.stops==[]))=true:=by kernel_rfl
theorem policySegments_j7:((Rows.policySegmentsRow.knobs==[]))=true:=by kernel_rfl
theorem policySegments_j8:((Tryz.pinned.checked.prog.stopKnobs==[]))=true:=by kernel_rfl
theorem policySegments_j9:((Rows.policySegmentsRow.inPlace==Tryz.pinned.checked.prog.inPlace 9))=true:=by kernel_rfl
theorem policySegments_j10:((Rows.policySegmentsRow.unfollowed==Tryz.pinned.checked.prog.unfollowed 9))=true:=by kernel_rfl
theorem policySegments_j11:((Rows.policySegmentsRow.recurses==Tryz.pinned.checked.prog.recurses 9))=true:=by kernel_rfl
theorem policySegments_j12:((Rows.policySegmentsRow.named==Tryz.pinned.checked.prog.varsNamed 9))=true:=by kernel_rfl
theorem policySegments_j13:((Rows.policySegmentsRow.maps==(Tryz.f9.params.toList++Rows.policySegmentsSpec.plain.varTypes Tryz.pinned.checked.prog).any (Tryz.pinned.checked.prog.mapsRec ·)))=true:=by kernel_rfl
theorem policySegments_j14:((Rows.policySegmentsRow.ifaces==(Tryz.f9.params.toList++Rows.policySegmentsSpec.plain.varTypes Tryz.pinned.checked.prog).any (Tryz.pinned.checked.prog.ifacesRec ·)))=true:=by kernel_rfl
theorem policySegments_j15:((Rows.policySegmentsRow.mapsOut==Tryz.pinned.checked.prog.mapsAmong Tryz.f9.resultTypes.toList))=true:=by kernel_rfl
theorem policySegments_j16:((Rows.policySegmentsRow.loops==(Tryz.f9.params.toList++Rows.policySegmentsSpec.plain.varTypes Tryz.pinned.checked.prog).any (Tryz.pinned.checked.prog.loopsFrom ·)))=true:=by kernel_rfl
theorem policySegments_j17:((Rows.policySegmentsRow.wideKeys==(Tryz.f9.params.toList++Rows.policySegmentsSpec.plain.varTypes Tryz.pinned.checked.prog++Tryz.f9.resultTypes.toList).any (Tryz.pinned.checked.prog.wideKeysFrom ·)))=true:=by kernel_rfl
theorem policySegments_j18:(Rows.policySegmentsSpec.vars.all (Tryz.pinned.checked.prog.varReadable ·))=true:=by kernel_rfl
theorem policySegments_j19:(Tryz.f9.resultTypes.all (fun t=>Tryz.pinned.checked.prog.readableRec t&&decide (t<Tryz.pinned.checked.prog.types.size)))=true:=by kernel_rfl
theorem policySegments_j20:((Rows.policySegmentsRow.ifacesOut==Tryz.f9.resultTypes.toList.any (Tryz.pinned.checked.prog.ifacesRec ·)))=true:=by kernel_rfl
theorem policySegments_j21:((Rows.policySegmentsRow.loopsOut==Tryz.f9.resultTypes.toList.any (Tryz.pinned.checked.prog.loopsFrom ·)))=true:=by kernel_rfl
theorem policySegments_j22:((Rows.policySegmentsRow.plainKeys==Tryz.pinned.checked.prog.plainKeys))=true:=by kernel_rfl
theorem policySegments_j23:(Rows.policySegmentsRow.shortTexts.isNone)=true:=by kernel_rfl
theorem policySegments_j24:(Tryz.pinned.checked.prog.stopsHeard)=true:=by kernel_rfl
theorem policySegments_j25:(Tryz.pinned.checked.prog.mayEnter)=true:=by kernel_rfl
theorem policySegments_j26:((Rows.policySegmentsRow.lifted==Tryz.pinned.checked.prog.liftsFinal))=true:=by kernel_rfl
theorem policySegments_j27:((Tryz.pinned.checked.prog.make==some Rows.policySegmentsRow.make))=true:=by kernel_rfl
theorem policySegments_j28:((Rows.policySegmentsRow.kinds==(if Rows.policySegmentsRow.domain.isEmpty then []else Tryz.f9.params.toList.map fun t=>match Tryz.pinned.checked.prog.underlying t with|some (.int k)=>some k|_=>none)))=true:=by kernel_rfl
theorem policySegments_j29:((Rows.policySegmentsRow.pinned==Rows.policySegmentsRow.pinnedBy))=true:=by kernel_rfl
theorem policySegments_j30:((Rows.policySegmentsRow.veiled==(Tryz.f9.params.toList++Rows.policySegmentsSpec.plain.varTypes Tryz.pinned.checked.prog++Tryz.f9.resultTypes.toList).any (Tryz.pinned.checked.prog.veiledRec ·)))=true:=by kernel_rfl
theorem policySegments_j31:(Rows.policySegmentsRow.veiledFits Tryz.pinned.checked.prog Tryz.f9.params.toList (Tryz.f9.params.toList++Rows.policySegmentsSpec.plain.varTypes Tryz.pinned.checked.prog++Tryz.f9.resultTypes.toList))=true:=by kernel_rfl
theorem policySegments_closed:joinedFacts Tryz.pinned.checked.prog 9 Tryz.f9 Rows.policySegmentsSpec Rows.policySegmentsRow=true:=(and2 (and2 (and2 (and2 (and2 (and2 (and2 (and2 (and2 (and2 (and2 (and2 (and2 (and2 (and2 (and2 (and2 (and2 (and2 (and2 (and2 (and2 (and2 (and2 (and2 (and2 (and2 (and2 (and2 (and2 (and2 policySegments_j0 policySegments_j1) policySegments_j2) policySegments_j3) policySegments_j4) policySegments_j5) policySegments_j6) policySegments_j7) policySegments_j8) policySegments_j9) policySegments_j10) policySegments_j11) policySegments_j12) policySegments_j13) policySegments_j14) policySegments_j15) policySegments_j16) policySegments_j17) policySegments_j18) policySegments_j19) policySegments_j20) policySegments_j21) policySegments_j22) policySegments_j23) policySegments_j24) policySegments_j25) policySegments_j26) policySegments_j27) policySegments_j28) policySegments_j29) policySegments_j30) policySegments_j31)
theorem policySegments_name:Tryz.pinned.checked.prog.funcNamed "netsegment/nsglaw18.PolicySegments"=some 9:=by kernel_rfl
theorem policySegments_want:(Tryz.f9.params.toList.all fun t=>Tryz.prog.wantsStandIn t==false)=true:=by kernel_rfl
theorem policySegments_wf:Rows.policySegmentsRow.wfByText (OpenSpec.ofChange Rows.policySegmentsSpec)=true:=by kernel_rfl
theorem policySegments_main:Tryz.pinned.checked.prog.mainIs=some (Rows.policySegmentsCard.stood.harness.1,Rows.policySegmentsCard.stood.harness.2.toList):=by kernel_rfl
theorem policySegments_looks:false=Tryz.pinned.checked.prog.looks []:=by kernel_rfl
theorem policySegments_goes:false=Rows.policySegmentsRow.goesBy Tryz.pinned.checked.prog:=by kernel_rfl
theorem policySegments_inst:decide (Tryz.f9.isInstance Tryz.pinned.checked.prog Rows.policySegmentsRow.origin Rows.policySegmentsRow.targs)=true:=by kernel_rfl
theorem policySegments_row:Rows.PolicySegmentsSaid:=
 OpenClaim.holds_of_wide 9 Tryz.f9 rfl rfl rfl rfl rfl rfl rfl ⟨rfl,rfl,rfl,rfl,rfl⟩ rfl rfl rfl rfl rfl policySegments_name Tryz.func9 policySegments_closed
  (of_decide_eq_true policySegments_inst) (by unfold Func.isWrapper;first|(rw[if_pos (by decide+kernel)];kernel_rfl)|(rw[if_neg (by decide+kernel)];exact⟨rfl,rfl⟩))
  (fun os started H enc _=>policySegments_lifted os started H enc)
theorem policySegments_hl:∀f fn,Tryz.pinned.checked.prog.funcNamed Rows.policySegmentsRow.func=some f->Tryz.pinned.checked.prog.funcs[f]? =some fn->false=Tryz.pinned.checked.prog.looks []/\∀(j:Nat) t,fn.params[j]? =some t->Tryz.pinned.checked.prog.wantsStandIn t=false:=fun f fn hf hfn=>by
 obtain rfl:f=9:=(Option.some.inj ((show Tryz.pinned.checked.prog.funcNamed Rows.policySegmentsRow.func=some 9 from policySegments_name).symm.trans hf)).symm
 obtain rfl:fn=Tryz.f9:=(Option.some.inj (Tryz.func9.symm.trans hfn)).symm
 exact⟨policySegments_looks,fun j t ht=>wants_none policySegments_want (List.mem_of_getElem? (by rw[Array.getElem?_toList];exact ht))⟩
theorem policySegments_holds:Rows.PolicySegmentsCardSaid:=
 Claim7.holds_tied_plain_at .later [] [.data,.widerDeep] true Rows.policySegmentsCard.stood.harness false
  policySegments_row (fun _ h=>by cases h) policySegments_wf (fun _ h=>by cases h) policySegments_row_tie rfl ⟨rfl,rfl⟩ policySegments_main rfl policySegments_hl policySegments_goes
#print axioms policySegments_holds
end Go.Proofs.YtbdikofefjljoaaGreatDoor
