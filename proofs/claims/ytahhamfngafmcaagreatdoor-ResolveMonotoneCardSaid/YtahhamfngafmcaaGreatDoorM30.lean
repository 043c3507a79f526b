/- A group has exactly the addresses of its items. -/
import Derived.Test.YtahhamfngafmcaaGreatDoorM29
set_option linter.unusedVariables false
set_option linter.unusedSimpArgs false
set_option maxRecDepth 100000
set_option maxHeartbeats 40000000
namespace Go.Proofs.YtahhamfngafmcaaGreatDoor
open Go Go.Vm
theorem enInt1(raw:List Int)(pos:Nat)(t:Tp)(hg:GTop t)(hp:pos<=raw.length)(hr:raw.length<=9223372036854775807){K:KT}
  (hK:∀(i:Nt) (pos':Nat),ENt i->pos'<=raw.length->K (encNt i) [tapeO raw pos']):
  ACall Tryz.prog 11 [.op 0 0,encT t,.v (.int .i64 1)] [tapeO raw pos] K:=enInt raw pos t hg.e5 (by have:=hg.d6;omega) (tpn_top hg) 1 (by decide) hp hr hK
def cpC:Nat->List Df->List AV
 |_,[]=>[]
 |k,d::r=>.v (.string d.name)::.os k 7 0 d.items.length::cpC (k+1) r
noncomputable def itA(d:Df):Vm.Obj:=.arr 7 (d.items.map encIt)
def cpV(l:List Df):AV:=match l with
 |[]=>.nils
 |_::_=>.os 0 2 0 l.length
noncomputable def cpO(l:List Df):List Vm.Obj:=match l with
 |[]=>[]
 |_::_=>.box (cpC 1 l)::l.map itA
theorem in_r{i:Int}{len:Nat}{K:Nat->Prop}(h:(decide (0<=i)&&Nat.blt i.toNat len)=true)(hk:K i.toNat):In i len K:=by
 rw[Bool.and_eq_true,decide_eq_true_eq,Nat.blt_eq]at h
 exact In.intro i.toNat (by omega) h.2 hk
theorem eyCpD(l:List Df)(hl:l.length<=4)(hi:∀d,d∈l->d.items.length<=999){K:KT}(hK:K (cpV l) (cpO l)):ACall Tryz.prog 48 [.lst (l.map encDf)] [] K:=by
 match l,hl with
 |[],_=>
  refine ofnCpD rfl rfl ?_
  (repeat' ((conv=>whnf);first|(with_reducible refine Lp.times 1 ?_)|refine zG ?_|apply zA|(apply zI;intro h)|exact zT));(all_goals conv=>whnf)
  exact hK
 |[a],_=>
  have ha:=hi a (by simp)
  refine ofnCpD rfl rfl ?_
  (repeat' ((conv=>whnf);first|(with_reducible refine Lp.times 2 ?_)|(refine in_r (by rfl) ?_)|(refine Ix.intro rfl ?_)|refine zG ?_|apply zA|(apply zI;intro h)|exact zT));(all_goals conv=>whnf)
  all_goals
   simp only[Nat.zero_add,List.nil_append,List.length_map]
   exact hK
 |[a,b],_=>
  have ha:=hi a (by simp)
  have hb:=hi b (by simp)
  refine ofnCpD rfl rfl ?_
  (repeat' ((conv=>whnf);first|(with_reducible refine Lp.times 3 ?_)|(refine in_r (by rfl) ?_)|(refine Ix.intro rfl ?_)|refine zG ?_|apply zA|(apply zI;intro h)|exact zT));(all_goals conv=>whnf)
  all_goals
   simp only[Nat.zero_add,List.nil_append,List.length_map]
   exact hK
 |[a,b,c],_=>
  have ha:=hi a (by simp)
  have hb:=hi b (by simp)
  have hc:=hi c (by simp)
  refine ofnCpD rfl rfl ?_
  (repeat' ((conv=>whnf);first|(with_reducible refine Lp.times 4 ?_)|(refine in_r (by rfl) ?_)|(refine Ix.intro rfl ?_)|refine zG ?_|apply zA|(apply zI;intro h)|exact zT));(all_goals conv=>whnf)
  all_goals
   simp only[Nat.zero_add,List.nil_append,List.length_map]
   exact hK
 |[a,b,c,d],_=>
  have ha:=hi a (by simp)
  have hb:=hi b (by simp)
  have hc:=hi c (by simp)
  have hd:=hi d (by simp)
  refine ofnCpD rfl rfl ?_
  (repeat' ((conv=>whnf);first|(with_reducible refine Lp.times 5 ?_)|(refine in_r (by rfl) ?_)|(refine Ix.intro rfl ?_)|refine zG ?_|apply zA|(apply zI;intro h)|exact zT));(all_goals conv=>whnf)
  all_goals
   simp only[Nat.zero_add,List.nil_append,List.length_map]
   exact hK
noncomputable def cpS(k:Nat)(l:List Df):Vm.Obj:=match l with
 |[]=>.arr 2 []
 |_::_=>.box (cpC k l)
noncomputable def ciV(i:Nt):AV:=.agg [.os 0 2 0 i.grps.length,.os 1 2 0 i.svcs.length,.os 2 2 0 i.wins.length,.os 3 10 0 i.sts.length,.os 4 6 0 i.pubs.length,.os 5 5 0 i.hids.length]
noncomputable def ciO(i:Nt):List Vm.Obj:=.box (cpC 6 i.grps)::cpS (6+i.grps.length) i.svcs::.arr 2 (i.wins.map encWn)::.arr 10 (i.sts.map encSm)::.arr 6 (i.pubs.map encPb)::.arr 5 (i.hids.map encHn)::(i.grps.map itA++i.svcs.map itA)
theorem eyCpI(i:Nt)(hg1:1<=i.grps.length)(hg3:i.grps.length<=3)(hs2:i.svcs.length<=2)(hw1:i.wins.length<=1)(hgi:∀d,d∈i.grps->d.items.length<=999)(hsi:∀d,d∈i.svcs->d.items.length<=999)(hwi:∀w,w∈i.wins->w.act.length<=4000)
  (h3:i.sts.length<=999)(h4:i.pubs.length<=999)(h5:i.hids.length<=999){K:KT}(hK:K (ciV i) (ciO i)):ACall Tryz.prog 20 [encNt i] [] K:=by
 obtain⟨gs,ss,ws,ts,ps,hs'⟩:=i
 simp only at hg1 hg3 hs2 hw1 hgi hsi hwi h3 h4 h5
 have c1:=fun {K} h=>@eyCpD gs (by omega) hgi K h
 have c2:=fun {K} h=>@eyCpD ss (by omega) hsi K h
 have hws:∀w,w∈ws->w.act.length<=4000:=hwi
 clear hgi hsi hwi
 rcases gs with _|⟨a,_|⟨b,_|⟨e,_|⟨_,_⟩⟩⟩⟩<;>rcases ss with _|⟨c,_|⟨d,_|⟨_,_⟩⟩⟩<;>rcases ws with _|⟨w,_|⟨_,_⟩⟩
 all_goals first
  |(exfalso;simp only[List.length_cons,List.length_nil]at hg1 hg3 hs2 hw1;omega)
  |((try have hwl:=hws w (by simp))
    refine ofnCpI rfl rfl ?_
    (repeat' ((conv=>whnf);first|(with_reducible first|refine c1 ?_|refine c2 ?_|refine Lp.times 2 ?_)|(refine in_r (by rfl) ?_)|(refine Ix.intro rfl ?_)|refine zG ?_|apply zA|(apply zI;intro h)|exact zT));(all_goals conv=>whnf)
    all_goals
     simp only[Nat.zero_add,List.nil_append,List.length_map]
     exact hK)
  |trace_state
theorem three_lenN{I:List (Int×Rg)}{X:List Bx}(h:Sh I X)(hk:∀x,x∈I->kindI x):(cano orB 3 X []).length<=10+2*I.length:=by
 have hc:=cnt_three I
 have:=len_by h hk lotB lotB_ok.1 lotB_ok.2.1 (lot_all (by decide)) fun r hr=>by
  rcases lotB_ok.2.2 r hr with h1|h1|h1|h1
  ·exact .inl h1
  ·exact .inr (.inl h1)
  ·exact .inr (.inr (.inl h1))
  ·exact .inr (.inr (.inr ⟨h1.1,fun _ _ _=>h1.2⟩))
 have e:(lotB.map (nPro I)).sum=1+(2+(1+((1+2*cntI I 6)+(1+((1+2*cntI I 17)+(1+(1+(1+0)))))))):=rfl
 omega
def sigI(I:List (Int×Rg))(q q':Nat->Int):Prop:=∀x,x∈I->((q 2=x.1/\x.2.lo<=q 4/\q 4<=x.2.hi)↔(q' 2=x.1/\x.2.lo<=q' 4/\q' 4<=x.2.hi))
structure Sv (I:List (Int×Rg)) (X:List Bx):Prop where
 ini:∀q,InP q->memK q 5 X=true->memK q 3 initS=true
 sig:∀q q',InP q->InP q'->(∀b,b∈initS->inK q 3 b=inK q' 3 b)->sigI I q q'->memK q 5 X=memK q' 5 X
theorem inK3_set{p:Nat->Int}{f:Nat}{v:Int}{b:Bx}(hf:f<=1):inK (setF p f v) 3 b=inK p 3 b:=inK_congr 3 b (by omega) fun g h4 h5=>setF_ne (by omega)
theorem memK3_set{p:Nat->Int}{f:Nat}{v:Int}{l:List Bx}(hf:f<=1):memK (setF p f v) 3 l=memK p 3 l:=memK_congr (by omega) fun g h4 h5=>setF_ne (by omega)
section
variable {I:List (Int×Rg)} {X:List Bx}
theorem at_two{p:Nat->Int}(u v:Int):memK p 3 (atF 1 v (atF 0 u X))=memK (setF (setF p 1 v) 0 u) 5 X:=by
 rw[memK_at (k:=3) (by omega) v];exact memK_at (k:=4) (by omega) u X
theorem sv_sh(h:Sv I X){u v:Int}(u0:0<=u)(u1:u<=4294967295)(v0:0<=v)(v1:v<=4294967295):Sh I (atF 1 v (atF 0 u X)) where
 ini:=fun p hp hm=>by
  rw[at_two]at hm
  have:=h.ini _ (inP_set (inP_set hp (f:=1) v0 v1) (f:=0) u0 u1) hm
  rwa[memK3_set (by omega),memK3_set (by omega)]at this
 sig:=fun p p' hp hp' h1 h2=>by
  rw[at_two,at_two]
  refine h.sig _ _ (inP_set (inP_set hp (f:=1) v0 v1) (f:=0) u0 u1) (inP_set (inP_set hp' (f:=1) v0 v1) (f:=0) u0 u1) (fun b hb=>?_) h2
  rw[inK3_set (by omega),inK3_set (by omega),inK3_set (by omega),inK3_set (by omega)]
  exact h1 b hb
theorem full_r:(mkR 0 4294967295).lo=0/\(mkR 0 4294967295).hi=4294967295:=by decide
theorem sv_len(h:Sv I X)(hk:∀x,x∈I->kindI x):(cano orB 5 X []).length<=10+2*I.length:=by
 have m:=full_r
 have low:∀(f:Nat) (p:Nat->Int) (u v:Int),f<=1->∀b,b∈initS->inK (setF p f u) 3 b=inK (setF p f v) 3 b:=fun f p u v hf b _=>by rw[inK3_set hf,inK3_set hf]
 refine one_pt (k:=4) (by omega) (r:=mkR 0 4294967295) (by decide) (fun p hp _=>inR_iff.2 ?_) (fun p u v hp hu hv u0 u1 v0 v1=>?_) fun u hu u0 u1=>?_
 ·have:=hp 0
  have t0:topF 0=4294967295:=rfl
  show(mkR 0 4294967295).lo<=p 0/\p 0<=(mkR 0 4294967295).hi
  omega
 ·exact h.sig _ _ (inP_set hp u0 u1) (inP_set hp v0 v1) (low 0 p u v (by omega)) fun x hx=>Iff.rfl
 ·refine one_pt (k:=3) (by omega) (r:=mkR 0 4294967295) (by decide) (fun p hp _=>inR_iff.2 ?_) (fun p a b hp ha hb a0 a1 b0 b1=>?_) fun v hv v0 v1=>?_
  ·have:=hp 1
   have t0:topF 1=4294967295:=rfl
   show(mkR 0 4294967295).lo<=p 1/\p 1<=(mkR 0 4294967295).hi
   omega
  ·show memK (setF p 1 a) 4 (atF 0 u X)=memK (setF p 1 b) 4 (atF 0 u X)
   have e:∀w,memK (setF p 1 w) 4 (atF 0 u X)=memK (setF (setF p 1 w) 0 u) 5 X:=fun w=>memK_at (k:=4) (by omega) u X
   rw[e,e]
   refine h.sig _ _ (inP_set (inP_set hp (f:=1) a0 a1) (f:=0) u0 u1) (inP_set (inP_set hp (f:=1) b0 b1) (f:=0) u0 u1) (fun c hc=>?_) fun x hx=>Iff.rfl
   rw[inK3_set (by omega),inK3_set (by omega),inK3_set (by omega),inK3_set (by omega)]
  ·exact three_lenN (sv_sh h u0 u1 v0 v1) hk
end
theorem comb1_mem{a:List Bx}{w:Bx}(ha:setB a=true)(hw:w.ok){q:Nat->Int}(hq:InP q):memK q 5 (combP anB a [w]).1=(memK q 5 a&&inK q 5 w):=by
 obtain⟨h1,h2,h3⟩:=giv_one hw
 have hp:=setB_pset ha
 have e:givP a=(a,0):=by rw[givP,if_pos ha]
 have hb:=boundA 5 a (givP [w]).1 (Nat.le_refl _) hp.cn h3
 have hm:a.length*(givP [w]).1.length<=a.length*1:=Nat.mul_le_mul_left _ h2
 have hl:=hp.len
 have hlim:¬4096<(cano anB 5 a (givP [w]).1).length:=by omega
 have e2:(combP anB a [w]).1=cano anB 5 a (givP [w]).1:=by
  unfold combP
  rw[e]
  simp only[ne_eq,not_true_eq_false,if_false,h1,limP,limE,if_neg hlim]
 rw[e2,cano_mem anB hq 5 _ _ (Nat.le_refl _),giv_one_mem hw hq,anB]
 simp[memK]
theorem memK_app(q:Nat->Int)(k:Nat)(a b:List Bx):memK q k (a++b)=(memK q k a||memK q k b):=by unfold memK;rw[List.any_append]
theorem init_q{q:Nat->Int}(hq:InP q):memK q 5 initS=memK q 3 initS:=by
 rw[Bool.eq_iff_iff]
 simp only[memK,List.any_eq_true]
 refine exists_congr fun b=>and_congr_right fun hb=>?_
 have hbf:=boxI_full (i:=⟨[],[],[],[],[],[]⟩) (List.mem_append_left _ hb)
 rw[inK_full hbf.1 hbf.2 hq]
section
variable {I:List (Int×Rg)}
theorem sv_nil:Sv I []:=⟨fun q _ h=>(by rw[memK_nil]at h;cases h),fun q q' _ _ _ _=>by rw[memK_nil,memK_nil]⟩
theorem init_sig{q q':Nat->Int}(h:∀b,b∈initS->inK q 3 b=inK q' 3 b):memK q 3 initS=memK q' 3 initS:=by
 rw[Bool.eq_iff_iff]
 simp only[memK,List.any_eq_true]
 exact exists_congr fun b=>and_congr_right fun hb=>by rw[h b hb]
theorem sv_init:Sv I initS:=⟨fun q hq h=>by rwa[init_q hq]at h,fun q q' hq hq' h _=>by rw[init_q hq,init_q hq'];exact init_sig h⟩
theorem sv_app{a b:List Bx}(ha:Sv I a)(hb:Sv I b):Sv I (a++b) where
 ini:=fun q hq h=>by
  rw[memK_app,Bool.or_eq_true]at h
  rcases h with h|h
  ·exact ha.ini q hq h
  ·exact hb.ini q hq h
 sig:=fun q q' hq hq' h1 h2=>by rw[memK_app,memK_app,ha.sig q q' hq hq' h1 h2,hb.sig q q' hq hq' h1 h2]
theorem sv_item{x:It}(hx:(wu x.proto,x.ports)∈I)(hw:(hdrX x).ok):Sv I (combP anB initS [hdrX x]).1 where
 ini:=fun q hq h=>by
  rw[comb1_mem init_set hw hq,Bool.and_eq_true,init_q hq]at h
  exact h.1
 sig:=fun q q' hq hq' h1 h2=>by
  rw[comb1_mem init_set hw hq,comb1_mem init_set hw hq',init_q hq,init_q hq',init_sig h1,inK_full (b:=hdrX x) rfl rfl hq,inK_full (b:=hdrX x) rfl rfl hq']
  congr 1
  rw[Bool.eq_iff_iff,inK_hdr hq,inK_hdr hq']
  exact h2 _ hx
theorem sv_or(hk:∀x,x∈I->kindI x)(hI:I.length<=2000){a b:List Bx}(ha:setB a=true)(hb:setB b=true)(va:Sv I a)(vb:Sv I b):
  (combP orB a b).2=0/\Sv I (combP orB a b).1/\∀q,InP q->memK q 5 (combP orB a b).1=(memK q 5 a||memK q 5 b):=by
 have hv:=sv_app va vb
 have hl:=sv_len hv hk
 have e:cano orB 5 a b=cano orB 5 (a++b) []:=cano_ext2 orB orB 5 _ _ _ _ (Nat.le_refl _) fun q hq=>by
  rw[memK_app,memK_nil];simp[orB]
 have h0:(combP orB a b).2=0:=by
  rw[combP_set ha hb]
  simp only[limE]
  rw[e,if_neg (by omega)]
 have hm:∀q,InP q->memK q 5 (combP orB a b).1=(memK q 5 a||memK q 5 b):=fun q hq=>by rw[combP_mem ha hb h0 hq];rfl
 refine⟨h0,⟨fun q hq h=>?_,fun q q' hq hq' h1 h2=>?_⟩,hm⟩
 ·rw[hm q hq,<-memK_app]at h
  exact hv.ini q hq h
 ·rw[hm q hq,hm q' hq',<-memK_app,<-memK_app]
  exact hv.sig q q' hq hq' h1 h2
theorem svcGo_ok(hk:∀x,x∈I->kindI x)(hI:I.length<=2000):∀(its:List It) (s:List Bx),setB s=true->Sv I s->(∀x,x∈its->(wu x.proto,x.ports)∈I/\(hdrX x).ok)->
  (svcGo its s).2=0/\Sv I (svcGo its s).1/\∀q,InP q->memK q 5 (svcGo its s).1=(memK q 5 s||(memK q 3 initS&&its.any fun x=>inK q 3 (hdrX x)))
 |[],s,hs,hv,_=>⟨rfl,hv,fun q hq=>by simp[svcGo]⟩
 |x::r,s,hs,hv,hx=>by
  obtain⟨h1,h2⟩:=hx x (by simp)
  have c1:=comb_one init_set h2
  have hA:setB (combP anB initS [hdrX x]).1=true:=setB_combP ..
  obtain⟨d1,d2,d3⟩:=sv_or hk hI hs hA hv (sv_item h1 h2)
  rw[svcGo_drop,if_neg (by rw[c1.1];decide),if_neg (by rw[d1];decide)]
  obtain⟨e1,e2,e3⟩:=svcGo_ok hk hI r (combP orB s (combP anB initS [hdrX x]).1).1 (setB_combP ..) d2 fun y hy=>hx y (List.mem_cons_of_mem _ hy)
  refine⟨e1,e2,fun q hq=>?_⟩
  rw[e3 q hq,d3 q hq,comb1_mem init_set h2 hq,init_q hq,inK_full (b:=hdrX x) rfl rfl hq,List.any_cons]
  cases memK q 5 s<;>cases memK q 3 initS<;>simp
end
theorem hdr_okK{x:It}(h:itB x false=true)(hk:x.kind≠3):(hdrX x).ok:=by
 unfold itB at h
 rw[if_neg hk]at h
 by_cases h1:x.kind=1
 ·rw[if_pos h1]at h;simp at h
 by_cases h2:x.kind=2
 ·rw[if_neg h1,if_pos h2]at h;simp at h
 by_cases h4:x.kind=4
 rotate_left
 ·rw[if_neg h1,if_neg h2,if_neg h4]at h;simp at h
 rw[if_neg h1,if_neg h2,if_pos h4]at h
 simp only[Bool.not_false,Bool.true_and,Bool.and_eq_true]at h
 have hp:=h.1
 have e0:fullB.r0.lo=0/\fullB.r0.hi=4294967295/\fullB.r1.lo=0/\fullB.r1.hi=4294967295/\fullB.r3.lo=0/\fullB.r3.hi=65535:=by decide
 have key:(0<=x.proto/\x.proto<=255)/\x.ports.lo<=x.ports.hi/\x.ports.hi<=65535:=by
  unfold prB at hp
  split at hp
  ·have:=of_decide_eq_true hp;omega
  ·split at hp
   ·have:=of_decide_eq_true hp;omega
   ·have:=of_decide_eq_true hp;omega
 have hw:=wu_id (p:=x.proto) (by omega) (by omega)
 refine⟨⟨?_,?_⟩,⟨?_,?_⟩,⟨?_,?_⟩,⟨?_,?_⟩,key.2.1,key.2.2⟩
 ·show fullB.r0.lo<=fullB.r0.hi;omega
 ·show fullB.r0.hi<=4294967295;omega
 ·show fullB.r1.lo<=fullB.r1.hi;omega
 ·show fullB.r1.hi<=4294967295;omega
 ·exact Int.le_refl _
 ·show wu x.proto<=255;omega
 ·show fullB.r3.lo<=fullB.r3.hi;omega
 ·show fullB.r3.hi<=65535;omega
theorem lead_item{l:List Df}{nm:ByteArray}{y:It}(h:Lead l (fun x y=>y=x) nm y):∃d,d∈l/\y∈d.items/\y.kind≠3:=by
 induction h with
 |here h1 h2 h3 h4 h5=>subst h5;exact⟨_,List.mem_of_getElem? h2,h3,h4⟩
 |there h1 h2 h3 h4 h5 ih=>exact ih
theorem svcP_ok{i:Nt}(h:DfsOk i.svcs false)(hk:∀x,x∈svcI i->kindI x)(hI:(svcI i).length<=2000)(nm:ByteArray):
  ((svcP i nm).2=0\/(svcP i nm).2=5\/(svcP i nm).2=8)/\Sv (svcI i) (svcP i nm).1/\(sEq nm ⟨#[]⟩=false->(svcP i nm).2=(svcF i.svcs nm).1/\((svcF i.svcs nm).1=0->∀q,InP q->(memK q 5 (svcP i nm).1=true↔memK q 3 initS=true/\∃y,Lead i.svcs (fun x y=>y=x) nm y/\inK q 3 (hdrX y)=true))):=by
 unfold svcP
 cases hn:sEq nm ⟨#[]⟩with
 |true=>rw[if_pos rfl];exact⟨.inl rfl,sv_init,fun h=>(by cases h)⟩
 |false=>
  rw[if_neg (by decide)]
  have he:=svcF_err i.svcs nm
  by_cases h0:(svcF i.svcs nm).1=0
  ·rw[if_neg (by omega)]
   obtain⟨hg,hl⟩:=svc_lead h0
   have hits:∀x,x∈(svcF i.svcs nm).2->(wu x.proto,x.ports)∈svcI i/\(hdrX x).ok:=fun x hx=>by
    obtain⟨d,hd,hxd,hx3⟩:=lead_item ((hl x).1 hx)
    obtain⟨n,hn⟩:=List.mem_iff_getElem?.1 hd
    exact⟨List.mem_flatMap.2 ⟨d,hd,List.mem_map.2 ⟨x,hxd,rfl⟩⟩,hdr_okK ((h.all n d hn).all x hxd) hx3⟩
   obtain⟨e1,e2,e3⟩:=svcGo_ok hk hI (svcF i.svcs nm).2 [] setB_nil sv_nil hits
   refine⟨.inl e1,e2,fun _=>⟨by rw[e1,h0],fun _ q hq=>?_⟩⟩
   rw[e3 q hq,memK_nil,Bool.false_or,Bool.and_eq_true,List.any_eq_true]
   refine and_congr_right fun _=>exists_congr fun y=>?_
   rw[hl y]
  ·rw[if_pos h0]
   exact⟨he,sv_nil,fun _=>⟨rfl,fun h=>absurd h h0⟩⟩
theorem svcI_kind{i:Nt}(h:GNt i):∀x,x∈svcI i->kindI x:=fun x hx=>by
 obtain⟨d,hd,hx⟩:=List.mem_flatMap.1 hx
 obtain⟨y,hy,rfl⟩:=List.mem_map.1 hx
 have:=h.sv d hd y hy
 unfold SvcIt at this
 unfold kindI
 simp only
 rcases this with⟨_,h1,h2,h3⟩|(h1|h1)|⟨h1,h2,h3⟩|⟨h1,h2,h3⟩
 ·rw[h1];exact .inr (.inr (.inr (.inr ⟨by decide,h2,h3⟩)))
 ·rw[h1];exact .inl (by decide)
 ·rw[h1];exact .inr (.inl (by decide))
 ·rw[h1];exact .inr (.inr (.inl ⟨by decide,h2,h3⟩))
 ·rw[h1];exact .inr (.inr (.inr (.inl ⟨by decide,h2,h3⟩)))
theorem svcI_few{i:Nt}(h:GNt i):(svcI i).length<=4:=by
 have h1:=sum_flat_le (fun d:Df=>d.items.map fun y=>(wu y.proto,y.ports)) (c:=2) i.svcs fun d hd=>by rw[List.length_map];exact h.few.si d hd
 have:=Nat.mul_le_mul_right 2 h.s2
 unfold svcI;omega
/-! ### Unions of ranges out of a list -/
section
variable {I:List (Int×Rg)}
end
end Go.Proofs.YtahhamfngafmcaaGreatDoor
