/- Every allowed header belongs to exactly one pair of edges: the statement PolicyPairsCardSaid holds, for the tied card. -/
import Derived.Test.YtbdikofefjljoaaGreatDoorProg
import Derived.Test.YtbdikofefjljoaaGreatDoorM33
set_option linter.unusedVariables false
set_option linter.unusedSimpArgs false
set_option maxRecDepth 100000
set_option maxHeartbeats 4000000
namespace Go.Proofs.YtbdikofefjljoaaGreatDoor
open Go Go.Vm
noncomputable def goPai:Ctx:={N:=133,own:=at1 10 (true) (at1 11 (true) (at1 20 (true) (fun _=>false))),plan:=at1 6 (some (.one 1 true (.one 2 true (.one 3 true (.one 4 true (.one 6 true (.one 8 true (.wch 0 (.wch 7 (.wch 9 (ln [10,20,22,25]))))))))))) (at1 19 (some (ln [1,3,5,7,9,11,15,12,17,19,21,23,25,27,29,31,35,32,37,39,41])) (at1 20 (some (ln [1,3,5,7,9,13,10,15,17,19,21,23,25,27,28,31,33])) (fun _=>none)))}
noncomputable def boPai:Code:=bdy Tryz.f7
abbrev ofoPai:=@ofC Tryz.prog goPai 7 Tryz.f7 boPai Tryz.func7 zk zk zk zk
theorem allow_pair{t:Tp}(g:GTop t){p:Pol}(hp:PolOk t p){h:Hd}(ho:h.Ok)(ha:(p.allow.any fun b=>conB b h)=true):0<=edgeAt t h.src/\0<=edgeAt t h.dst/\edgeAt t h.src≠edgeAt t h.dst:=by
 have hs:=hp.sub
 unfold subB at hs
 rw[vld_all (okL_set hp.set)]at hs
 have hw:=(cano_sub _ _).1 (List.isEmpty_iff.1 hs) (hdQ h) (hdQ_in ho) (by rw[<-con_mem hp.set ho];exact ha)
 rw[con_vld,pairs_con g ho,decide_eq_true_eq]at hw
 exact hw
structure PrF (t:Tp) (p:Pol) (a b:Nat) (s:List Bx):Prop where
 set:setB s=true
 len:s.length<=p.allow.length
 eq:a=b->s=[]
 sub:∀q,InP q->memK q 5 s=true->memK q 5 p.allow=true
 con:∀h:Hd,h.Ok->(s.any fun x=>conB x h)=((decide (edgeAt t h.src=a)&&decide (edgeAt t h.dst=b))&&p.allow.any fun x=>conB x h)
theorem pair_law{t:Tp}(g:GTop t)(hc:compB t=true){p:Pol}(hp:PolOk t p){a b:Nat}(ha:a<t.edges.length)(hb:b<t.edges.length):(pairP t p a b).2=0/\PrF t p a b (pairP t p a b).1:=by
 obtain⟨h0,hl⟩:=pairP_in hp ha hb
 obtain⟨ea,hea⟩:=gex ha
 obtain⟨eb,heb⟩:=gex hb
 have hs:=pairP_set t p a b
 by_cases hab:a=b
 ·have he:(pairP t p a b).1=[]:=by
   subst hab
   unfold pairP
   rw[if_neg (by rw[hc];decide),if_neg zo,if_pos rfl]
  refine⟨h0,hs,hl,fun _=>he,fun q _ hm=>(by rw[he,memK_nil]at hm;cases hm),fun h ho=>?_⟩
  rw[he,List.any_nil]
  cases hA:(p.allow.any fun x=>conB x h)with
  |false=>rw[Bool.and_false]
  |true=>
   have:=allow_pair g hp ho hA
   rw[Bool.and_true]
   symm
   rw[Bool.and_eq_false_iff]
   by_cases h1:edgeAt t h.src=a
   ·refine .inr (decide_eq_false fun h2=>?_);omega
   ·exact .inl (decide_eq_false h1)
 ·have hw:=pairP_who (p:=p) hc hab hea heb
  have hok:=who_ok hc hea heb
  have hm:∀q,InP q->memK q 5 (pairP t p a b).1=(memK q 5 p.allow&&memK q 5 [whoB ea.pf eb.pf]):=fun q hq=>by rw[hw];exact comb_one_mem hp.set hok hq
  refine⟨h0,hs,hl,fun e=>absurd e hab,fun q hq hmq=>?_,fun h ho=>?_⟩
  ·rw[hm q hq,Bool.and_eq_true]at hmq
   exact hmq.1
  ·rw[con_mem hs ho,hm _ (hdQ_in ho),<-con_mem hp.set ho,<-whole_at g hea heb ho,Bool.and_comm]
   congr 1
   rw[Bool.eq_iff_iff,memK_iff,con_inK]
   constructor
   ·rintro⟨x,hx,hi⟩
    rw[List.mem_singleton.1 hx]at hi
    exact⟨hi,hok⟩
   ·exact fun hi=>⟨_,List.mem_singleton.2 rfl,hi.1⟩
theorem cPolPairs(raw:List Int)(h0:Hd)(hr:raw.length<=9223372036854775807)(ho:h0.Ok):ACall Tryz.prog 7 [.lst (raw.map encI),encHd h0] [] Yes:=by
 have h4:∀{pos:Nat} {K:KT} (hp:pos<=raw.length),(∀(t:Tp) (i:Nt) (m:Int) (pos':Nat),GTop t->t.devs.length<=3->ENt i->0<=m->m<10080->pos'<=raw.length->K (.tup [encT t,encNt i,.v (.int .i64 m)]) [tapeO raw pos'])->
  ACall Tryz.prog 11 [.op 0 0,.v (.int .i64 3),.v (.int .i64 3)] [tapeO raw pos] K:=fun hp h=>coNet 3 zd raw _ hp hr h
 refine ofoPai rfl rfl ?_
 (repeat' ((conv=>whnf);first|(with_reducible first|refine c9 raw ?_|refine h4 (Nat.zero_le _) fun t i m p1 ht htd hi m0 m1 hp1=>?_)|refine zG ?_|apply zA|(apply zI;intro h)|exact zT));(all_goals conv=>whnf)
 have hb:=bnd_ent hi
 have hc:=comp_top ht
 have hnt:=ntB_true hi.ok
 have he5:=ht.e5
 have hs4:=hi.t3
 obtain⟨hE,hZ⟩:=err_atV hc hnt m0 m1
 have hat:∀{K:KT},K (.tup [encPol (atV t i m).1,.v (.int .i64 (atV t i m).2)]) []->ACall Tryz.prog 12 [encT t,encNt i,.v (.int .i64 m)] [] K:=fun h=>coAt t zo zo i hb zo m h
 by_cases he:(atV t i m).2=0
 case neg=>
  (repeat' ((conv=>whnf);first|(with_reducible first|refine hat ?_|refine coSan ?_)|refine zG ?_|apply zA|(apply zI;intro h)|exact zT));(all_goals conv=>whnf)
  all_goals first
   |exact .inl rfl
   |exact .inr rfl
   |(exfalso;simp_all;done)
   |trace_state
 obtain⟨hpre,hav,hae⟩:=atV_ok he
 have hpol:=atP_ok (m:=m) hc hnt hae
 rw[hav]at hat he
 rw[he]at hat
 clear hE hZ hav hae he
 generalize (atP t i m).1=p at*
 have hpl:=(setB_pset hpol.set).len
 have hnear:∀(l:List Bx) {pos:Nat} {K:KT} (hl:l.length<=4096) (hp:pos<=raw.length),(∀(g:Hd) (pos':Nat),g.Ok->pos'<=raw.length->K (encHd g) [tapeO raw pos'])->
  ACall Tryz.prog 20 [.op 0 0,encT t,encXs l] [tapeO raw pos] K:=fun l _ _ hl hp h=>coNear raw _ t l zo zo hp hr h
 (repeat' ((conv=>whnf);first|(with_reducible first|refine hat ?_|refine hnear p.allow hpl zw fun g p2 hg hp2=>?_)|refine zG ?_|apply zA|(apply zI;intro h)|exact zT));(all_goals conv=>whnf)
 rename_i ga _ hga _
 have hall:∀x,x∈[h0,ga,g]->x.Ok:=fun x hx=>by
  simp only[List.mem_cons,List.not_mem_nil,or_false]at hx
  rcases hx with rfl|rfl|rfl<;>assumption
 obtain⟨H,hH,hHl⟩:∃H,H=[h0,ga,g]/\H.length=3:=⟨_,rfl,rfl⟩
 refine Lp.intro Nat (fun a=>⟨3,[(0,boxT t),(1,boxPol p),(2,.arr 5 (H.map encHd))],[(6,.op 0 0),(9,.op 1 0),(11,.os 2 5 0 3),(12,.v (.int .i64 a))]⟩) (fun a=>a<=t.edges.length) (fun a=>t.edges.length-a) 0 (Nat.zero_le _) ?_ ?_
 ·rw[hH]
  (exact leA)
 rw[<-hH]at hall
 clear hH hnear hat hga hg ga g
 intro a ha
 rcases Nat.lt_or_ge a t.edges.length with hal|hal
 ·(repeat' ((conv=>whnf);first|refine zG ?_|apply zA|(apply zI;intro h)|exact zT));(all_goals conv=>whnf)
  refine Lp.intro Nat (fun b=>⟨3,[(0,boxT t),(1,boxPol p),(2,.arr 5 (H.map encHd))],[(6,.op 0 0),(9,.op 1 0),(11,.os 2 5 0 3),(12,.v (.int .i64 a)),(13,.v (.int .i64 b))]⟩) (fun b=>b<=t.edges.length) (fun b=>t.edges.length-b) 0 (Nat.zero_le _) ?_ ?_
  ·(exact leA)
  intro b hb
  rcases Nat.lt_or_ge b t.edges.length with hbl|hbl
  ·obtain⟨hz,F⟩:=pair_law ht hc hpol hal hbl
   have hpr:∀{K:KT},K (.tup [encXs (pairP t p a b).1,.v (.int .i64 0)]) []->ACall Tryz.prog 32 [encT t,encPol p,.v (.int .i64 (a:Nat)),.v (.int .i64 (b:Nat))] [] K:=fun h=>cyPair t p a b zo zo (by rw[hz];exact h)
   clear hz
   generalize (pairP t p a b).1=s at*
   have hsl:=F.len
   have hsub:∀{K:KT},K (.sb true) []->ACall Tryz.prog 33 [encXs s,encXs p.allow] [] K:=fun h=>sub_small F.set hpol.set F.sub h
   have hse:=F.eq
   have hne:a=b->((s.map encX).length:Int)=0:=fun h=>by rw[hse h];rfl
   (repeat' ((conv=>whnf);first|(with_reducible first|refine hpr ?_|refine hsub ?_)|refine zG ?_|apply zA|(apply zI;intro h)|exact zT));(all_goals conv=>whnf)
   all_goals first
    |(exfalso;simp_all;done)
    |(exfalso;simp only[List.length_map]at*;omega)
    |skip
   all_goals
    refine Lp.intro Nat (fun k=>⟨3,[(0,boxT t),(1,boxPol p),(2,.arr 5 (H.map encHd))],[(6,.op 0 0),(9,.op 1 0),(11,.os 2 5 0 3),(12,.v (.int .i64 a)),(13,.v (.int .i64 b)),(14,encXs s),(16,.v (.int .i64 k))]⟩) (fun k=>k<=3) (fun k=>3-k) 0 (Nat.zero_le _) ?_ ?_
    ·(exact leA)
    intro k hk
    rcases Nat.lt_or_ge k 3 with hkl|hkl
    ·obtain⟨g,hg⟩:∃g,H[0+k]? =some g:=⟨_,List.getElem?_eq_getElem zo⟩
     have hgo:=hall g (List.mem_of_getElem? hg)
     have f:=F.con g hgo
     have ht1:∀(v:Int) {K:KT},K (.v (.int .i64 (edgeAt t v))) []->ACall Tryz.prog 34 [encT t,.v (.int .u32 v)] [] K:=fun v K h=>cuAtI t v zo h
     have hcs:∀{K:KT},K (.sb (s.any fun x=>conB x g)) []->ACall Tryz.prog 22 [encXs s,encHd g] [] K:=fun h=>eyCont s g hgo zo h
     have hca:∀{K:KT},K (.sb (p.allow.any fun x=>conB x g)) []->ACall Tryz.prog 22 [encXs p.allow,encHd g] [] K:=fun h=>eyCont p.allow g hgo zo h
     generalize (p.allow.any fun x=>conB x g)=ca at*
     generalize (s.any fun x=>conB x g)=cs at*
     have hs1:=fun {K} h=>@ht1 g.src K h
     have hs2:=fun {K} h=>@ht1 g.dst K h
     generalize edgeAt t g.src=e1 at*
     generalize edgeAt t g.dst=e2 at*
     clear hall ht1
     (repeat' ((conv=>whnf);first|(with_reducible first|refine in_nat hkl ?_|refine ix_map hg ?_|refine hs1 ?_|refine hs2 ?_|refine hcs ?_|refine hca ?_)|refine zG ?_|apply zA|(apply zI;intro h)|exact zT));(all_goals conv=>whnf)
     all_goals first
      |(refine⟨k+1,hkl,by omega,?_⟩
        rw[Int.natCast_add k,Int.natCast_one]
        (exact leA)
        done)
      |(exfalso;simp_all;done)
      |trace_state
    ·(repeat' ((conv=>whnf);first|refine zG ?_|apply zA|(apply zI;intro h)|exact zT));(all_goals conv=>whnf)
     refine⟨b+1,hbl,by omega,?_⟩
     rw[Int.natCast_add b,Int.natCast_one]
     (exact leA)
  ·(repeat' ((conv=>whnf);first|refine zG ?_|apply zA|(apply zI;intro h)|exact zT));(all_goals conv=>whnf)
   refine⟨a+1,hal,by omega,?_⟩
   rw[Int.natCast_add a,Int.natCast_one]
   (exact leA)
 ·(repeat' ((conv=>whnf);first|(with_reducible refine coSan ?_)|refine zG ?_|apply zA|(apply zI;intro h)|exact zT));(all_goals conv=>whnf)
  all_goals first
   |exact .inl rfl
   |exact .inr rfl
   |(exfalso;simp only[List.length_map]at*;omega)
   |trace_state
open Go Go.Vm Go.ChangeShapes Go.WideShapes Go.ChangeAt Go.RowKit
theorem andP{a b:Bool}(h1:a=true)(h2:b=true):(a&&b)=true:=by rw[h1,h2];rfl
theorem policyPairs_lifted(os:Os)(started:os.Started)(H:Type)(enc:TypeId×Value->H):
  ReturnsInHanded {} Tryz.checked os 7 .any (fun w args=>(Rows.policyPairsSpec.pre enc Tryz.prog Tryz.f7 [] false w args/\laidMetH Tryz.prog laid3 w)/\sizedMet enc Tryz.prog Tryz.f7 (OpenSpec.ofChange Rows.policyPairsSpec) false w args)
   (Rows.policyPairsSpec.post enc Tryz.prog Tryz.f7 false true false false):=by
 refine returnsInHanded_of_change_and (C:=Tryz.checked) (X:=fun w _=>laidMetH Tryz.prog laid3 w) (fun _ _ _ hh h=>h.of_heap hh) ownNone started zk Tryz.func7
  (ChangeSpec.witness_shaped (enc:=enc) (C:=Tryz.checked) (os:=os) (X:=fun w _=>laidMetH Tryz.prog laid3 w) false (World.doorLaid Tryz.prog 400 os) #[.slice none 0 0,.agg #[.int .u32 0,.int .u32 0,.int .u8 0,.int .u16 0,.int .u16 0]] 8 rfl (World.shaped_of_RefB zk zk) zk zk zk (door_met os _)) ?_
 intro W base args ds gs before hval0 hW _ _ hL _
 have hval:∀(j:Nat) t v,Tryz.f7.params[j]? =some t->args[j]? =some v->Value.okWide Tryz.prog W .any base t v:=hval0
 refine law_contract (P:=Tryz.prog) (t:=4) (d:=6) laidOut zk zk rfl rfl zk (fun ds hds=>?_) (fun xs hxs=>?_) (glob_of hL) hval hW
 ·have hds:ds.length=2:=hds.trans (show Tryz.f7.params.size=2 by kernel_rfl)
  match ds,hds with
  |[d0,d1],_=>rfl
 ·match xs,hxs with
  |[a0,a1],⟨h0,h1,_⟩=>
   obtain⟨raw0,rfl,hr0⟩:=ty_is (d:=4) h0
   obtain⟨g1,rfl,o1⟩:=tz_hd (d:=4) h1
   exact cPolPairs raw0 g1 hr0 o1
theorem policyPairs_j0:(Rows.policyPairsRow.wf (OpenSpec.ofChange Rows.policyPairsSpec))=true:=by kernel_rfl
theorem policyPairs_j1:(laidOutB Tryz.pinned.checked.prog)=true:=by kernel_rfl
theorem policyPairs_j2:(mapsRowed Tryz.pinned.checked.prog)=true:=by kernel_rfl
theorem policyPairs_j3:(Tryz.f7.params.all (Tryz.pinned.checked.prog.readableRec ·))=true:=by kernel_rfl
theorem policyPairs_j4:(namedTie Tryz.pinned.checked.prog Rows.policyPairsRow.named Rows.policyPairsSpec.vars)=true:=by kernel_rfl
theorem policyPairs_j5:((Rows.policyPairsRow.stops==[]))=true:=by kernel_rfl
theorem policyPairs_j6:((Tryz.pinned.checked.prog.stops==[]))=true:=by kernel_rfl
theorem policyPairs_j7:((Rows.policyPairsRow.knobs==[]))=true:=by kernel_rfl
theorem policyPairs_j8:((Tryz.pinned.checked.prog.stopKnobs==[]))=true:=by kernel_rfl
theorem policyPairs_j9:((Rows.policyPairsRow.inPlace==Tryz.pinned.checked.prog.inPlace 7))=true:=by kernel_rfl
theorem policyPairs_j10:((Rows.policyPairsRow.unfollowed==Tryz.pinned.checked.prog.unfollowed 7))=true:=by kernel_rfl
theorem policyPairs_j11:((Rows.policyPairsRow.recurses==Tryz.pinned.checked.prog.recurses 7))=true:=by kernel_rfl
theorem policyPairs_j12:((Rows.policyPairsRow.named==Tryz.pinned.checked.prog.varsNamed 7))=true:=by kernel_rfl
theorem policyPairs_j13:((Rows.policyPairsRow.maps==(Tryz.f7.params.toList++Rows.policyPairsSpec.plain.varTypes Tryz.pinned.checked.prog).any (Tryz.pinned.checked.prog.mapsRec ·)))=true:=by kernel_rfl
theorem policyPairs_j14:((Rows.policyPairsRow.ifaces==(Tryz.f7.params.toList++Rows.policyPairsSpec.plain.varTypes Tryz.pinned.checked.prog).any (Tryz.pinned.checked.prog.ifacesRec ·)))=true:=by kernel_rfl
theorem policyPairs_j15:((Rows.policyPairsRow.mapsOut==Tryz.pinned.checked.prog.mapsAmong Tryz.f7.resultTypes.toList))=true:=by kernel_rfl
theorem policyPairs_j16:((Rows.policyPairsRow.loops==(Tryz.f7.params.toList++Rows.policyPairsSpec.plain.varTypes Tryz.pinned.checked.prog).any (Tryz.pinned.checked.prog.loopsFrom ·)))=true:=by kernel_rfl
theorem policyPairs_j17:((Rows.policyPairsRow.wideKeys==(Tryz.f7.params.toList++Rows.policyPairsSpec.plain.varTypes Tryz.pinned.checked.prog++Tryz.f7.resultTypes.toList).any (Tryz.pinned.checked.prog.wideKeysFrom ·)))=true:=by kernel_rfl
theorem policyPairs_j18:(Rows.policyPairsSpec.vars.all (Tryz.pinned.checked.prog.varReadable ·))=true:=by kernel_rfl
theorem policyPairs_j19:(Tryz.f7.resultTypes.all (fun t=>Tryz.pinned.checked.prog.readableRec t&&decide (t<Tryz.pinned.checked.prog.types.size)))=true:=by kernel_rfl
theorem policyPairs_j20:((Rows.policyPairsRow.ifacesOut==Tryz.f7.resultTypes.toList.any (Tryz.pinned.checked.prog.ifacesRec ·)))=true:=by kernel_rfl
theorem policyPairs_j21:((Rows.policyPairsRow.loopsOut==Tryz.f7.resultTypes.toList.any (Tryz.pinned.checked.prog.loopsFrom ·)))=true:=by kernel_rfl
theorem policyPairs_j22:((Rows.policyPairsRow.plainKeys==Tryz.pinned.checked.prog.plainKeys))=true:=by kernel_rfl
theorem policyPairs_j23:(Rows.policyPairsRow.shortTexts.isNone)=true:=by kernel_rfl
theorem policyPairs_j24:(Tryz.pinned.checked.prog.stopsHeard)=true:=by kernel_rfl
theorem policyPairs_j25:(Tryz.pinned.checked.prog.mayEnter)=true:=by kernel_rfl
theorem policyPairs_j26:((Rows.policyPairsRow.lifted==Tryz.pinned.checked.prog.liftsFinal))=true:=by kernel_rfl
theorem policyPairs_j27:((Tryz.pinned.checked.prog.make==some Rows.policyPairsRow.make))=true:=by kernel_rfl
theorem policyPairs_j28:((Rows.policyPairsRow.kinds==(if Rows.policyPairsRow.domain.isEmpty then []else Tryz.f7.params.toList.map fun t=>match Tryz.pinned.checked.prog.underlying t with|some (.int k)=>some k|_=>none)))=true:=by kernel_rfl
theorem policyPairs_j29:((Rows.policyPairsRow.pinned==Rows.policyPairsRow.pinnedBy))=true:=by kernel_rfl
theorem policyPairs_j30:((Rows.policyPairsRow.veiled==(Tryz.f7.params.toList++Rows.policyPairsSpec.plain.varTypes Tryz.pinned.checked.prog++Tryz.f7.resultTypes.toList).any (Tryz.pinned.checked.prog.veiledRec ·)))=true:=by kernel_rfl
theorem policyPairs_j31:(Rows.policyPairsRow.veiledFits Tryz.pinned.checked.prog Tryz.f7.params.toList (Tryz.f7.params.toList++Rows.policyPairsSpec.plain.varTypes Tryz.pinned.checked.prog++Tryz.f7.resultTypes.toList))=true:=by kernel_rfl
theorem policyPairs_closed:joinedFacts Tryz.pinned.checked.prog 7 Tryz.f7 Rows.policyPairsSpec Rows.policyPairsRow=true:=(andP (andP (andP (andP (andP (andP (andP (andP (andP (andP (andP (andP (andP (andP (andP (andP (andP (andP (andP (andP (andP (andP (andP (andP (andP (andP (andP (andP (andP (andP (andP policyPairs_j0 policyPairs_j1) policyPairs_j2) policyPairs_j3) policyPairs_j4) policyPairs_j5) policyPairs_j6) policyPairs_j7) policyPairs_j8) policyPairs_j9) policyPairs_j10) policyPairs_j11) policyPairs_j12) policyPairs_j13) policyPairs_j14) policyPairs_j15) policyPairs_j16) policyPairs_j17) policyPairs_j18) policyPairs_j19) policyPairs_j20) policyPairs_j21) policyPairs_j22) policyPairs_j23) policyPairs_j24) policyPairs_j25) policyPairs_j26) policyPairs_j27) policyPairs_j28) policyPairs_j29) policyPairs_j30) policyPairs_j31)
theorem policyPairs_name:Tryz.pinned.checked.prog.funcNamed "netsegment/nsglaw18.PolicyPairs"=some 7:=by kernel_rfl
theorem policyPairs_want:(Tryz.f7.params.toList.all fun t=>Tryz.prog.wantsStandIn t==false)=true:=by kernel_rfl
theorem policyPairs_wf:Rows.policyPairsRow.wfByText (OpenSpec.ofChange Rows.policyPairsSpec)=true:=by kernel_rfl
theorem policyPairs_main:Tryz.pinned.checked.prog.mainIs=some (Rows.policyPairsCard.stood.harness.1,Rows.policyPairsCard.stood.harness.2.toList):=by kernel_rfl
theorem policyPairs_looks:false=Tryz.pinned.checked.prog.looks []:=by kernel_rfl
theorem policyPairs_goes:false=Rows.policyPairsRow.goesBy Tryz.pinned.checked.prog:=by kernel_rfl
theorem policyPairs_inst:decide (Tryz.f7.isInstance Tryz.pinned.checked.prog Rows.policyPairsRow.origin Rows.policyPairsRow.targs)=true:=by kernel_rfl
theorem policyPairs_row:Rows.PolicyPairsSaid:=
 OpenClaim.holds_of_wide 7 Tryz.f7 rfl rfl rfl rfl rfl rfl rfl ⟨rfl,rfl,rfl,rfl,rfl⟩ rfl rfl rfl rfl rfl policyPairs_name Tryz.func7 policyPairs_closed
  (of_decide_eq_true policyPairs_inst) (by unfold Func.isWrapper;first|(rw[if_pos (by decide+kernel)];kernel_rfl)|(rw[if_neg (by decide+kernel)];exact⟨rfl,rfl⟩))
  (fun os started H enc _=>policyPairs_lifted os started H enc)
theorem policyPairs_hl:∀f fn,Tryz.pinned.checked.prog.funcNamed Rows.policyPairsRow.func=some f->Tryz.pinned.checked.prog.funcs[f]? =some fn->false=Tryz.pinned.checked.prog.looks []/\∀(j:Nat) t,fn.params[j]? =some t->Tryz.pinned.checked.prog.wantsStandIn t=false:=fun f fn hf hfn=>by
 obtain rfl:f=7:=(Option.some.inj ((show Tryz.pinned.checked.prog.funcNamed Rows.policyPairsRow.func=some 7 from policyPairs_name).symm.trans hf)).symm
 obtain rfl:fn=Tryz.f7:=(Option.some.inj (Tryz.func7.symm.trans hfn)).symm
 exact⟨policyPairs_looks,fun j t ht=>wants_none policyPairs_want (List.mem_of_getElem? (by rw[Array.getElem?_toList];exact ht))⟩
theorem policyPairs_holds:Rows.PolicyPairsCardSaid:=
 Claim7.holds_tied_plain_at .later [] [.data,.widerDeep] true Rows.policyPairsCard.stood.harness false
  policyPairs_row (fun _ h=>by cases h) policyPairs_wf (fun _ h=>by cases h) policyPairs_row_tie rfl ⟨rfl,rfl⟩ policyPairs_main rfl policyPairs_hl policyPairs_goes
#print axioms policyPairs_holds
end Go.Proofs.YtbdikofefjljoaaGreatDoor
