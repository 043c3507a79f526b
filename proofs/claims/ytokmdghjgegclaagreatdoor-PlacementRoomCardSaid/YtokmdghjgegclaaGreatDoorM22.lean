/- Groups and services of the reference, as far as sizes go, and what they tell apart. -/
import Derived.Test.YtokmdghjgegclaaGreatDoorProg
import Derived.Test.YtokmdghjgegclaaGreatDoorM21
set_option linter.unusedVariables false
set_option linter.unusedSimpArgs false
set_option maxRecDepth 100000
set_option maxHeartbeats 4000000
namespace Go.Proofs.YtokmdghjgegclaaGreatDoor
open Go Go.Vm
structure Few (i:Nt):Prop where
 sml:Sml i
 g3:i.grps.length<=3
 s3:i.svcs.length<=3
 gi:∀d,d∈i.grps->d.items.length<=2
 si:∀d,d∈i.svcs->d.items.length<=2
theorem pow4{n:Nat}(h:n<=3):4^n<=64:=Nat.pow_le_pow_right (by decide) h
theorem nodup_nil':([]:List Nat).Nodup:=List.Pairwise.nil
theorem chFind(t:Tp)(ht:t.edges.length<=5)(l:List Df)(hl:l.length<=3)(hi:∀d,d∈l->d.items.length<=2)(s:ByteArray){K:KT}(hK:∀(its:List It) (e:Int),its.length<=64->(∀y,y∈its->Lf l y)->K (.tup [.lst (its.map encIt),.v (.int .i64 e)]) []):
  ACall Tryz.prog 172 [encT t,.lst (l.map encDf),.v (.string s)] [] K:=by
 have h4:=pow4 hl
 have hf:∀(r:Int),0<=r->r<l.length->∀{K:KT},(∀(e:Int) (done':List Nat) (its':List It),FolR l 0 0 (4^l.length) done' its'->K (.v (.int .i64 e)) [walkO l 3 4 done'.length its'.length,.box [],.box [],.arr 1 (done'.map vN),.arr 7 (its'.map encIt)])->
  ACall Tryz.prog 205 [.op 0 0,encT t,.v (.int .i64 r),.nils] [walkO l 1 2 0 0,.arr 1 [],.arr 7 []] K:=fun r r0 r1 K h=>by
  obtain⟨m,rfl⟩:=Int.eq_ofNat_of_zero_le r0
  exact ACall.args (ys:=[.op 0 0,encT t,.v (.int .i64 m),.lst (([]:List Nat).map vN)]) ⟨Weak.refl,Weak.refl,Weak.refl,Weak.nils,trivial⟩
   (chFol t ht l (by omega) hi l.length [] m [] [] (by simp) nodup_nil' (fun x hx=>by simp at hx) (by omega) (by simp;omega) (by simp;omega) (fun y hy=>by simp at hy) h)
 refine ACall.weak (ofh17Find rfl rfl ?_)
 (repeat' ((conv=>whnf);first|(with_reducible first|refine cjFind l s (by omega) fun r r0 r1=>?_|refine hf _ (by omega) (by assumption) fun e dn im hfr=>?_)|refine zG ?_|apply zA|(apply zI;intro h)|exact zT));(all_goals conv=>whnf)
 ·exact⟨_,Weak.tup2 Weak.nils Weak.refl,hK [] _ (by simp) (by simp)⟩
 ·exact⟨_,Weak.refl,hK im e (by have:=hfr.i;omega) hfr.lf⟩
theorem lf_rg{t:Tp}{i:Nt}{y:It}(h:Lf i.grps y):y.pf.rg∈rgsI t i:=by
 obtain⟨_,d,hd,hy⟩:=h
 exact List.mem_append_right _ (List.mem_flatMap.2 ⟨d,hd,List.mem_map.2 ⟨y,hy,rfl⟩⟩)
theorem ed_rg{t:Tp}{i:Nt}{r:Rg}(h:∃e,e∈t.edges/\r=e.pf.rg):r∈rgsI t i:=by
 obtain⟨e,he,rfl⟩:=h
 exact List.mem_append_left _ (List.mem_map.2 ⟨e,he,rfl⟩)
theorem c14z(a:List Rg)(ha:a.length<10000){K:KT}(hK:∀out,(∀v,has out v=has a v)->out.length<=2*a.length+1->K (encRs out) []):ACall Tryz.prog 169 [encRs a,.lst []] [] K:=
 c14 a [] ha (by simp) fun out h1 h2 h3=>hK out (fun v=>by rw[h2];simp[has_nil]) (by simpa using h3)
theorem chGrp(t:Tp)(ht:t.edges.length<=5)(i:Nt)(hf:Few i)(s:ByteArray){K:KT}(hK:∀(rs:List Rg) (e:Int),rs.length<=700->RespR t i rs->K (.tup [encRs rs,.v (.int .i64 e)]) []):
  ACall Tryz.prog 122 [encT t,encNt i,.v (.string s)] [] K:=by
 refine ACall.weak (ofh17Grp rfl rfl ?_)
 (repeat' ((conv=>whnf);first|(with_reducible first|refine cuCompB t (by omega) ?_|refine cjVal i hf.sml fun b hb=>?_|refine chAll t ht fun l hl hb=>?_|refine chEdg t _ (by assumption) (by assumption) fun rs hrs he=>?_|refine c14z _ (by omega) fun out ho1 ho2=>?_|refine chFind t ht i.grps hf.g3 hf.gi s fun its e hits hlf=>?_)|refine zG ?_|apply zA|(apply zI;intro h)|exact zT));(all_goals conv=>whnf)
 all_goals first
  |exact⟨_,Weak.tup2 Weak.nils Weak.refl,hK [] _ (by simp) RespR.nil⟩
  |exact⟨_,Weak.refl,hK out _ (by omega) ((RespR.of fun r hr=>ed_rg (he r hr)).has ho1)⟩
  |skip
 refine Lp.intro (Nat×List Rg) (fun g=>⟨2,[(0,boxT t),(1,.arr 2 (g.2.map encR))],[(3,.op 0 0),(8,.lst (its.map encIt)),(10,.os 1 2 0 g.2.length),(11,.v (.int .i64 g.1))]⟩)
  (fun g=>g.1<=its.length/\g.2.length<=5*g.1/\∀r,r∈g.2->r∈rgsI t i) (fun g=>its.length-g.1) (0,[]) ⟨Nat.zero_le _,Nat.zero_le _,fun r h=>by simp at h⟩ ?_ ?_
 ·(exact leA)
 rintro⟨k,out⟩ ⟨h1,h2,h3⟩
 simp only at h1 h2 h3⊢
 rcases Nat.lt_or_ge k its.length with hkl|hkl
 ·obtain⟨y,hy⟩:=gex hkl
  have hyl:=hlf y (List.mem_of_getElem? hy)
  (repeat' ((conv=>whnf);first|(with_reducible first|refine in_map hkl ?_|refine ix_map hy ?_|refine chZone t _ ht fun z hz hzb=>?_|refine chEdg t _ (by assumption) (by assumption) fun rs hrs he=>?_|refine crOf _ ?_)|refine zG ?_|apply zA|(apply zI;intro h)|exact zT));(all_goals conv=>whnf)
  ·refine⟨(k+1,out++rs),⟨hkl,by simp only[List.length_append];omega,fun r hr=>by
    rcases List.mem_append.1 hr with hr|hr
    ·exact h3 r hr
    ·exact ed_rg (he r hr)⟩,by simp only;omega,?_⟩
   simp only[List.map_append,List.length_append,List.length_map,Int.natCast_add,Int.natCast_one]
   (exact leA)
  ·refine⟨(k+1,out++[y.pf.rg]),⟨hkl,by simp only[List.length_append,List.length_cons,List.length_nil];omega,fun r hr=>by
    rcases List.mem_append.1 hr with hr|hr
    ·exact h3 r hr
    ·rw[List.mem_singleton.1 hr];exact lf_rg hyl⟩,by simp only;omega,?_⟩
   simp only[List.map_append,List.length_append,List.map_cons,List.map_nil,List.length_cons,List.length_nil,Int.natCast_add,Int.natCast_one]
   (exact leA)
 ·(repeat' ((conv=>whnf);first|(with_reducible first|refine sl_full (List.length_map ..) ?_|refine c14z out (by omega) fun o ho1 ho2=>?_)|refine zG ?_|apply zA|(apply zI;intro h)|exact zT));(all_goals conv=>whnf)
  exact⟨_,Weak.refl,hK o _ (by omega) ((RespR.of h3).has ho1)⟩
def tp0:Tp:=⟨[],[],[],[],0⟩
theorem chSvc(t:Tp)(i:Nt)(hf:Few i)(s:ByteArray){K:KT}(hK:∀(l:List Bx) (e:Int),setB l=true->Resp t i l->K (.tup [encXs l,.v (.int .i64 e)]) []):
  ACall Tryz.prog 123 [encNt i,.v (.string s)] [] K:=by
 have hfz:∀{K:KT},(∀(its:List It) (e:Int),its.length<=64->(∀y,y∈its->Lf i.svcs y)->K (.tup [.lst (its.map encIt),.v (.int .i64 e)]) [])->
  ACall Tryz.prog 172 [.agg [.lst [],.lst [],.lst [],.lst [],.v (.int .i64 0)],.lst (i.svcs.map encDf),.v (.string s)] [] K:=fun h=>
  (chFind tp0 (by simp[tp0]) i.svcs hf.s3 hf.si s h)
 refine ACall.weak (ofh17Svc rfl rfl ?_)
 (repeat' ((conv=>whnf);first|(with_reducible first|refine cjVal i hf.sml fun b hb=>?_|refine cr4Init ?_|refine hfz fun its e hits hlf=>?_)|refine zG ?_|apply zA|(apply zI;intro h)|exact zT));(all_goals conv=>whnf)
 all_goals first
  |exact⟨_,Weak.tup2 Weak.nils Weak.refl,hK [] _ setB_nil Resp.nil⟩
  |exact⟨_,Weak.refl,hK initS _ init_set Resp.init⟩
  |skip
 refine Lp.intro (Nat×List Bx) (fun g=>⟨0,[],[(6,.lst (its.map encIt)),(8,encXs g.2),(9,.v (.int .i64 g.1))]⟩)
  (fun g=>g.1<=its.length/\setB g.2=true/\Resp t i g.2) (fun g=>its.length-g.1) (0,[]) ⟨Nat.zero_le _,setB_nil,Resp.nil⟩ ?_ ?_
 ·(exact leA)
 rintro⟨k,l⟩ ⟨h1,h2,h3⟩
 simp only at h1 h2 h3⊢
 have hll:=(setB_pset h2).len
 rcases Nat.lt_or_ge k its.length with hkl|hkl
 ·obtain⟨y,hy⟩:=gex hkl
  obtain⟨_,hyl⟩:=hlf y (List.mem_of_getElem? hy)
  have hhl:=(setB_pset (setB_combP anB initS [hdrX y])).len
  (repeat' ((conv=>whnf);first|(with_reducible first|refine in_map hkl ?_|refine ix_map hy ?_|refine chHdr y ?_|refine cr4Un l (combP anB initS [hdrX y]).1 (by omega) (by omega) ?_)|refine zG ?_|apply zA|(apply zI;intro h)|exact zT));(all_goals conv=>whnf)
  all_goals first
   |exact⟨_,Weak.tup2 Weak.nils Weak.refl,hK [] _ setB_nil Resp.nil⟩
   |(refine⟨(k+1,(combP orB l (combP anB initS [hdrX y]).1).1),⟨hkl,setB_combP ..,Resp.comb h3 (Resp.hdr hyl) h2 (setB_combP ..)⟩,by simp only;omega,?_⟩
     simp only[Int.natCast_add,Int.natCast_one]
     (exact leA)
     done)
 ·(repeat' ((conv=>whnf);first|refine zG ?_|apply zA|(apply zI;intro h)|exact zT));(all_goals conv=>whnf)
  exact⟨_,Weak.refl,hK l _ h2 h3⟩
theorem btwB_nil(b:List Rg):btwB [] b=[]:=rfl
theorem btwB_snoc(a:List Rg)(r:Rg)(b:List Rg):btwB (a++[r]) b=btwB a b++b.map fun s=>btwX r s:=by simp[btwB]
theorem btwB_len(b:List Rg):∀a:List Rg,(btwB a b).length=a.length*b.length
 |[]=>by simp[btwB]
 |r::a=>by
  have:=btwB_len b a
  simp only[btwB,List.flatMap_cons,List.length_append,List.length_map,List.length_cons,Nat.succ_mul]at*
  omega
theorem chBtw(a b:List Rg)(ha:a.length<=700)(hb:b.length<=700){K:KT}(hK:K (.tup [encXs (makeP (btwB a b)).1,.v (.int .i64 (makeP (btwB a b)).2)]) []):ACall Tryz.prog 127 [encRs a,encRs b] [] K:=by
 refine ofh17Btw rfl rfl ?_
 (repeat' ((conv=>whnf);first|refine zG ?_|apply zA|(apply zI;intro h)|exact zT));(all_goals conv=>whnf)
 refine Lp.intro Nat (fun i=>⟨1,[(0,.arr 10 ((btwB (a.take i) b).map encX))],[(0,encRs a),(1,encRs b),(6,.os 0 10 0 (btwB (a.take i) b).length),(7,.v (.int .i64 i))]⟩) (fun i=>i<=a.length) (fun i=>a.length-i) 0 (Nat.zero_le _) ?_ ?_
 ·rw[List.take_zero,btwB_nil]
  (exact leA)
 intro i hi
 have hl:=btwB_len b (a.take i)
 have hm:(a.take i).length*b.length<=700*700:=Nat.mul_le_mul (by rw[List.length_take];omega) hb
 rcases Nat.lt_or_ge i a.length with hil|hil
 ·obtain⟨r,hr⟩:=gex hil
  have hs:btwB (a.take (i+1)) b=btwB (a.take i) b++b.map fun s=>btwX r s:=by rw[List.take_add_one,hr];exact btwB_snoc ..
  generalize btwB (a.take i) b=A at*
  (repeat' ((conv=>whnf);first|refine zG ?_|apply zA|(apply zI;intro h)|exact zT));(all_goals conv=>whnf)
  refine Lp.intro Nat (fun k=>⟨1,[(0,.arr 10 ((A++(b.take k).map fun s=>btwX r s).map encX))],[(0,encRs a),(1,encRs b),(6,.os 0 10 0 (A++(b.take k).map fun s=>btwX r s).length),(7,.v (.int .i64 i)),(8,.v (.int .i64 k))]⟩) (fun k=>k<=b.length) (fun k=>b.length-k) 0 (Nat.zero_le _) ?_ ?_
  ·rw[List.take_zero,List.map_nil,List.append_nil]
   (exact leA)
  intro k hk
  rcases Nat.lt_or_ge k b.length with hkl|hkl
  ·obtain⟨s,hs2⟩:=gex hkl
   have hap:(A++(b.take (k+1)).map fun s=>btwX r s)=(A++(b.take k).map fun s=>btwX r s)++[btwX r s]:=by rw[List.take_add_one,hs2];simp
   have hlen:(A++(b.take k).map fun s=>btwX r s).length<=1000000:=by rw[List.length_append,List.length_map,List.length_take];omega
   generalize hB:(A++(b.take (k+1)).map fun s=>btwX r s)=B at*
   generalize (A++(b.take k).map fun s=>btwX r s)=C at*
   (repeat' ((conv=>whnf);first|(with_reducible first|refine cr3Full ?_|refine in_map hil ?_|refine in_map hkl ?_|refine ix_map hr ?_|refine ix_map hs2 ?_)|(refine in_c (by decide) ?_)|refine zG ?_|apply zA|(apply zI;intro h)|exact zT));(all_goals conv=>whnf)
   all_goals
    refine⟨k+1,hkl,by omega,?_⟩
    rw[hB,hap,List.map_append,List.length_append,Int.natCast_add k,Int.natCast_one]
    (exact leA)
  ·(repeat' ((conv=>whnf);first|refine zG ?_|apply zA|(apply zI;intro h)|exact zT));(all_goals conv=>whnf)
   have hke:k=b.length:=by omega
   rw[hke,List.take_length,<-hs]
   refine⟨i+1,hil,by omega,?_⟩
   rw[Int.natCast_add i,Int.natCast_one]
   (exact leA)
 ·have hie:i=a.length:=by omega
  have hbl:(btwB a b).length<1000000000:=by
   have:=Nat.mul_le_mul ha hb
   rw[btwB_len];omega
  rw[hie,List.take_length]
  have hfull:((btwB a b).map encX).length=(btwB a b).length:=List.length_map ..
  (repeat' ((conv=>whnf);first|(with_reducible first|refine sl_full hfull ?_|refine cr4Make (btwB a b) hbl ?_)|refine zG ?_|apply zA|(apply zI;intro h)|exact zT));(all_goals conv=>whnf)
  exact hK
theorem setB_len{s:List Bx}(h:setB s=true):s.length<1000000000:=by have:=(setB_pset h).len;omega
theorem makeP_len(l:List Bx):(makeP l).1.length<1000000000:=by have:=(makeP_pset l).len;omega
theorem chStm(t:Tp)(ht:t.edges.length<=5)(i:Nt)(hf:Few i)(n:Nat)(hn:n<i.sts.length){K:KT}(hK:∀(s:List Bx) (e:Int),setB s=true->Resp t i s->K (.tup [encXs s,.v (.int .i64 e)]) []):
  ACall Tryz.prog 76 [encT t,encNt i,.v (.int .i64 n)] [] K:=by
 have hst:=hf.sml.t
 obtain⟨x,hx⟩:=gex hn
 refine ACall.weak (ofh17Stm rfl rfl ?_)
 (repeat' ((conv=>whnf);first|(with_reducible first|refine cuCompB t (by omega) ?_|refine cjVal i hf.sml fun b hb=>?_|refine in_map hn ?_|refine ix_map hx ?_|refine chGrp t ht i hf _ fun rs e hl hr=>?_|refine chSvc t i hf _ fun s e hs hr=>?_|refine chBtw _ _ (by assumption) (by assumption) ?_|refine cr4Int _ _ (makeP_len _) (setB_len (by assumption)) ?_|refine cr4Sub _ _ (setB_len (setB_combP ..)) (makeP_len _) ?_)|refine zG ?_|apply zA|(apply zI;intro h)|exact zT));(all_goals conv=>whnf)
 all_goals first
  |exact⟨_,Weak.tup2 Weak.nils Weak.refl,hK [] _ setB_nil Resp.nil⟩
  |exact⟨_,Weak.refl,hK _ _ (setB_combP ..) (Resp.comb (Resp.btw (by assumption) (by assumption)) (by assumption) (setB_makeP _) (by assumption))⟩
  |exact⟨_,Weak.refl,hK _ _ (setB_combP ..) (Resp.comb (Resp.comb (Resp.btw (by assumption) (by assumption)) (by assumption) (setB_makeP _) (by assumption)) (Resp.btw (by assumption) (by assumption)) (setB_combP ..) (setB_makeP _))⟩
  |trace_state
theorem chCls(t:Tp)(s:ByteArray)(hd:t.devs.length<=100){K:KT}(hK:∀b,K (.sb b) []):ACall Tryz.prog 124 [encT t,.v (.string s)] [] K:=by
 refine ACall.bool (ofh17Cls rfl rfl ?_)
 (repeat' ((conv=>whnf);first|refine zG ?_|apply zA|(apply zI;intro h)|exact zT));(all_goals conv=>whnf)
 refine Lp.intro Nat (fun k=>⟨1,[(0,boxT t)],[(1,.v (.string s)),(2,.op 0 0),(5,.v (.int .i64 k))]⟩) (fun k=>k<=t.devs.length) (fun k=>t.devs.length-k) 0 (Nat.zero_le _) ?_ ?_
 ·(exact leA)
 intro k hk
 rcases Nat.lt_or_ge k t.devs.length with hkl|hkl
 ·obtain⟨x,hx⟩:=gex hkl
  (repeat' ((conv=>whnf);first|(with_reducible first|refine in_map hkl ?_|refine ix_map hx ?_)|refine zG ?_|apply zA|(apply zI;intro h)|exact zT));(all_goals conv=>whnf)
  all_goals first
   |exact .inl ⟨_,rfl,hK _⟩
   |exact .inr ⟨_,rfl,hK _⟩
   |(refine⟨k+1,hkl,by omega,?_⟩
     rw[Int.natCast_add,Int.natCast_one]
     (exact leA)
     done)
 ·(repeat' ((conv=>whnf);first|refine zG ?_|apply zA|(apply zI;intro h)|exact zT));(all_goals conv=>whnf)
  all_goals first
   |exact .inl ⟨_,rfl,hK _⟩
   |exact .inr ⟨_,rfl,hK _⟩
theorem chReal(t:Tp)(hl:t.edges.length<=5)(hc:compB t=true){K:KT}(hK:K (.tup [encXs (realP t).1,.v (.int .i64 (realP t).2)]) []):ACall Tryz.prog 38 [encT t] [] K:=by
 have hpl:(pairsTo t.edges t.edges.length).length<=20:=pairs_len5 hl
 refine ACall.weak (ofh18Real rfl rfl ?_)
 unfold realP at hK
 (repeat' ((conv=>whnf);first|(with_reducible refine cuCompB t (by omega) ?_)|refine zG ?_|apply zA|(apply zI;intro h)|exact zT));(all_goals conv=>whnf)
 all_goals first
  |(exfalso;simp_all;done)
  |skip
 refine Lp.intro Nat (fun a=>⟨2,[(1,.arr 10 ((pairsTo t.edges a).map encX)),(0,boxT t)],[(1,.op 0 0),(4,.os 1 10 0 (pairsTo t.edges a).length),(5,.v (.int .i64 a))]⟩) (fun a=>a<=t.edges.length) (fun a=>t.edges.length-a) 0 (Nat.zero_le _) ?_ ?_
 ·(exact leA)
 intro a ha
 have hl1:=pairsTo_len t.edges a
 have hl2:a*t.edges.length<=5*5:=Nat.mul_le_mul (by omega) (by omega)
 rcases Nat.lt_or_ge a t.edges.length with hal|hal
 ·obtain⟨ea,hea⟩:=gex hal
  (repeat' ((conv=>whnf);first|refine zG ?_|apply zA|(apply zI;intro h)|exact zT));(all_goals conv=>whnf)
  refine Lp.intro Nat (fun b=>⟨2,[(1,.arr 10 ((pairsTo t.edges a++pairsAt t.edges a ea b).map encX)),(0,boxT t)],[(1,.op 0 0),(4,.os 1 10 0 (pairsTo t.edges a++pairsAt t.edges a ea b).length),(5,.v (.int .i64 a)),(6,.v (.int .i64 b))]⟩) (fun b=>b<=t.edges.length) (fun b=>t.edges.length-b) 0 (Nat.zero_le _) ?_ ?_
  ·rw[show pairsAt t.edges a ea 0=[]from rfl,List.append_nil]
   (exact leA)
  intro b hb
  have hl3:=pairsAt_len t.edges a ea b
  rcases Nat.lt_or_ge b t.edges.length with hbl|hbl
  ·obtain⟨eb,heb⟩:=gex hbl
   have hs:=pairsAt_succ (a:=a) (ea:=ea) heb
   have hlen:(pairsTo t.edges a++pairsAt t.edges a ea b).length<=100:=by rw[List.length_append];omega
   have hap:pairsTo t.edges a++pairsAt t.edges a ea (b+1)=(pairsTo t.edges a++pairsAt t.edges a ea b)++(if a=b then []else [whoB ea.pf eb.pf]):=by rw[hs,List.append_assoc]
   generalize hA:pairsTo t.edges a++pairsAt t.edges a ea b=A at*
   generalize hB:pairsTo t.edges a++pairsAt t.edges a ea (b+1)=B at*
   (repeat' ((conv=>whnf);first|(with_reducible refine cvWho t a b ea eb hea heb ?_)|refine zG ?_|apply zA|(apply zI;intro h)|exact zT));(all_goals conv=>whnf)
   all_goals
    refine⟨b+1,hbl,by omega,?_⟩
    first
     |(rw[if_neg (by omega)]at hap
       rw[hB,hap,List.map_append,List.length_append,Int.natCast_add b,Int.natCast_one]
       (exact leA)
       done)
     |(rw[if_pos (by omega),List.append_nil]at hap
       rw[hB,hap,Int.natCast_add b,Int.natCast_one]
       (exact leA)
       done)
  ·(repeat' ((conv=>whnf);first|refine zG ?_|apply zA|(apply zI;intro h)|exact zT));(all_goals conv=>whnf)
   have hbe:b=t.edges.length:=by omega
   rw[hbe,<-pairsTo_succ hea]
   refine⟨a+1,hal,by omega,?_⟩
   rw[Int.natCast_add a,Int.natCast_one]
   (exact leA)
 ·have hae:a=t.edges.length:=by omega
  rw[hae]
  have hfull:((pairsTo t.edges t.edges.length).map encX).length=(pairsTo t.edges t.edges.length).length:=List.length_map ..
  have hmk:∀{K:KT},K (.tup [encXs (makeP (pairsB t.edges)).1,.v (.int .i64 (makeP (pairsB t.edges)).2)]) []->ACall Tryz.prog 84 [encXs (pairsTo t.edges t.edges.length)] [] K:=fun h=>cr4Make (pairsB t.edges) (by rw[pairsB];omega) h
  (repeat' ((conv=>whnf);first|(with_reducible first|refine sl_full hfull ?_|refine hmk ?_|refine cr4Init ?_|refine cr4Int _ _ (makeP_len _) (by decide) ?_)|refine zG ?_|apply zA|(apply zI;intro h)|exact zT));(all_goals conv=>whnf)
  all_goals first
   |(rw[if_neg (by simp_all)]at hK
     exact⟨_,Weak.refl,hK⟩)
   |(rw[if_pos (by simp_all)]at hK
     exact⟨_,Weak.tup2 Weak.nils Weak.refl,hK⟩)
theorem cqAct(l:List Rg)(hl:l.length<=4000)(m:Int){K:KT}(hK:∀b,K (.sb b) []):ACall Tryz.prog 175 [encRs l,.v (.int .i64 m)] [] K:=by
 refine ACall.bool (ofq9Act rfl rfl ?_)
 (repeat' ((conv=>whnf);first|(with_reducible first|refine wr_u32_any fun r r0 r1=>?_|refine c34 l _ (by omega) ?_)|refine zG ?_|apply zA|(apply zI;intro h)|exact zT));(all_goals conv=>whnf)
 all_goals first
  |exact .inl ⟨_,rfl,hK _⟩
  |exact .inr ⟨_,rfl,hK _⟩
theorem chAct(i:Nt)(hf:Sml i)(n:Nat)(hn:n<i.sts.length)(m:Int){K:KT}(hK:∀b,K (.sb b) []):ACall Tryz.prog 126 [encNt i,.v (.int .i64 n),.v (.int .i64 m)] [] K:=by
 have hw:=hf.w
 obtain⟨x,hx⟩:=gex hn
 have hq:∀(r:Int),0<=r->r<i.wins.length->∀{K:AV->Prop},(∀y:Wn,y.act.length<=4000->K (encWn y))->In r (i.wins.map encWn).length fun j=>Ix (i.wins.map encWn) j K:=fun r r0 r1 K h=>by
  refine In.intro r.toNat (by omega) (by rw[List.length_map];omega) ?_
  have hl:r.toNat<i.wins.length:=by omega
  exact ix_map (List.getElem?_eq_getElem hl) (h _ (hf.wi _ (List.getElem_mem hl)))
 refine ACall.bool (ofh18Act rfl rfl ?_)
 (repeat' ((conv=>whnf);first|(with_reducible first|refine in_map hn ?_|refine ix_map hx ?_|refine cjFindW _ _ hf.w fun r r0 r1=>?_|refine hq _ (by omega) (by assumption) fun y hy=>?_|refine cqAct _ (by assumption) _ fun b=>?_)|refine zG ?_|apply zA|(apply zI;intro h)|exact zT));(all_goals conv=>whnf)
 all_goals first
  |exact .inl ⟨_,rfl,hK _⟩
  |exact .inr ⟨_,rfl,hK _⟩
  |trace_state
theorem chOrd(i:Nt)(hf:Sml i)(m:Int){K:KT}(hK:∀l:List Nat,(∀n,n∈l->n<i.sts.length)->l.length<=2000000->K (.lst (l.map vN)) []):ACall Tryz.prog 75 [encNt i,.v (.int .i64 m)] [] K:=by
 have ht:=hf.t
 refine ACall.weak (ofh18Ord rfl rfl ?_)
 (repeat' ((conv=>whnf);first|(with_reducible refine cjVal i hf fun b hb=>?_)|refine zG ?_|apply zA|(apply zI;intro h)|exact zT));(all_goals conv=>whnf)
 all_goals first
  |exact⟨_,Weak.nils,hK [] (by simp) (by simp)⟩
  |skip
 all_goals
  refine Lp.intro (Nat×List Nat) (fun g=>⟨2,[(0,boxNt i),(1,.arr 1 (g.2.map vN))],[(1,.v (.int .i64 m)),(2,.op 0 0),(5,.os 1 1 0 g.2.length),(6,.v (.int .i64 ((g.1:Int)-1)))]⟩)
   (fun g=>g.1<=1001/\g.2.length+g.1*1000<=1001000/\∀n,n∈g.2->n<i.sts.length) (fun g=>g.1) (1001,[]) ⟨Nat.le_refl _,by simp,fun n h=>by simp at h⟩ ?_ ?_
  ·(exact leA)
  rintro⟨p,l⟩ ⟨h1,h2,h3⟩
  simp only at h1 h2 h3⊢
  rcases Nat.lt_or_ge 0 p with hp|hp
  ·(repeat' ((conv=>whnf);first|refine zG ?_|apply zA|(apply zI;intro h)|exact zT));(all_goals conv=>whnf)
   refine Lp.intro (Nat×List Nat) (fun g=>⟨2,[(0,boxNt i),(1,.arr 1 (g.2.map vN))],[(1,.v (.int .i64 m)),(2,.op 0 0),(5,.os 1 1 0 g.2.length),(6,.v (.int .i64 ((p:Int)-1))),(7,.v (.int .i64 g.1))]⟩)
    (fun g=>g.1<=i.sts.length/\g.2.length<=l.length+g.1/\∀n,n∈g.2->n<i.sts.length) (fun g=>i.sts.length-g.1) (0,l) ⟨Nat.zero_le _,by simp,h3⟩ ?_ ?_
   ·(exact leA)
   rintro⟨n,o⟩ ⟨k1,k2,k3⟩
   simp only at k1 k2 k3⊢
   rcases Nat.lt_or_ge n i.sts.length with hnl|hnl
   ·obtain⟨x,hx⟩:=gex hnl
    (repeat' ((conv=>whnf);first|(with_reducible first|refine in_map hnl ?_|refine ix_map hx ?_|refine chAct i hf n hnl m fun b=>?_)|refine zG ?_|apply zA|(apply zI;intro h)|exact zT));(all_goals conv=>whnf)
    all_goals first
     |(refine⟨(n+1,o),⟨hnl,by simp only;omega,k3⟩,by simp only;omega,?_⟩
       simp only[Int.natCast_add,Int.natCast_one]
       (exact leA)
       done)
     |(refine⟨(n+1,o++[n]),⟨hnl,by simp only[List.length_append,List.length_cons,List.length_nil];omega,fun j hj=>by
        rcases List.mem_append.1 hj with hj|hj
        ·exact k3 j hj
        ·rw[List.mem_singleton.1 hj];exact hnl⟩,by simp only;omega,?_⟩
       simp only[List.map_append,List.length_append,List.map_cons,List.map_nil,List.length_cons,List.length_nil,Int.natCast_add,Int.natCast_one]
       (exact leA)
       done)
   ·(repeat' ((conv=>whnf);first|refine zG ?_|apply zA|(apply zI;intro h)|exact zT));(all_goals conv=>whnf)
    obtain⟨p',rfl⟩:∃p',p=p'+1:=⟨p-1,by omega⟩
    refine⟨(p',o),⟨by simp only;omega,by simp only;omega,k3⟩,by simp only;omega,?_⟩
    simp only[show((p'+1:Nat):Int)-1-1=(p':Int)-1 from by omega]
    (exact leA)
  ·obtain rfl:p=0:=by omega
   (repeat' ((conv=>whnf);first|(with_reducible refine sl_full (List.length_map ..) ?_)|refine zG ?_|apply zA|(apply zI;intro h)|exact zT));(all_goals conv=>whnf)
   exact⟨_,Weak.refl,hK l h3 (by omega)⟩
theorem chPut(l:List Insp)(c:ByteArray)(s:List Bx)(hl:l.length<3000000)(hs:setB s=true)(hsl:∀x,x∈l->setB x.set=true){K:KT}(hK:∀(l':List Insp) (e:Int),PutR l c s l' e->K (.tup [.lst (l'.map encIn),.v (.int .i64 e)]) []):
  ACall Tryz.prog 79 [.lst (l.map encIn),.v (.string c),encXs s] [] K:=by
 refine ACall.weak (ofh18Put rfl rfl ?_)
 (repeat' ((conv=>whnf);first|refine zG ?_|apply zA|(apply zI;intro h)|exact zT));(all_goals conv=>whnf)
 ·exact⟨_,Weak.refl,hK l 0 (.skip (.inl (by simpa using h)))⟩
 ·exact⟨_,Weak.refl,hK l 0 (.skip (.inr (List.length_eq_zero_iff.1 (by simp only[List.length_map]at h;omega))))⟩
 rename_i hc0
 have hc1:c.toList≠[]:=fun e=>by simp[e]at hc0
 have hn1:s≠[]:=fun e=>h (by rw[e];rfl)
 clear hc0 h
 refine Lp.intro Nat (fun k=>⟨0,[],[(0,.lst (l.map encIn)),(1,.v (.string c)),(2,encXs s),(8,.v (.int .i64 k))]⟩) (fun k=>k<=l.length/\∀(j:Nat) y,j<k->l[j]? =some y->ltS y.cls c=true) (fun k=>l.length-k) 0 ⟨Nat.zero_le _,fun j y h=>absurd h (Nat.not_lt_zero _)⟩ ?_ ?_
 ·(exact leA)
 intro k ⟨hk,hin⟩
 have hI:(∀y,l[k]? =some y->ltS y.cls c=false/\(y.cls.toList==c.toList)=false)->K (.tup [.lst ([]++(List.take (k-0) (List.drop 0 l)).map encIn++[.agg [.v (.string c),encXs s]]++(List.take (l.length-k) (List.drop k l)).map encIn),.v (.int .i64 0)]) []:=fun h=>by
  have:=hK _ 0 (PutR.ins k hc1 hn1 hk hin h)
  have e:List.take (l.length-k) (List.drop k l)=List.drop k l:=List.take_of_length_le (by rw[List.length_drop];exact Nat.le_refl _)
  rw[e,List.drop_zero,Nat.sub_zero,List.nil_append]
  simpa using this
 rcases Nat.lt_or_ge k l.length with hkl|hkl
 ·obtain⟨y,hy⟩:=gex hkl
  have hget:([]++l.map encIn)[0+k]? =some (encIn y):=by rw[List.nil_append,Nat.zero_add,List.getElem?_map,hy];rfl
  (repeat' ((conv=>whnf);first|(with_reducible first|refine in_map hkl ?_|refine ix_map hy ?_|refine Sb.intro 0 k rfl rfl (Nat.zero_le _) (by rw[List.length_map];omega) ?_|refine Sb.intro k l.length rfl (by rw[List.length_map]) (by omega) (by rw[List.length_map];exact Nat.le_refl _) ?_|refine sl_map (by omega) ?_|refine cr4Un y.set s (setB_len (hsl y (List.mem_of_getElem? hy))) (setB_len hs) ?_|refine In.intro k rfl (by rw[Nat.zero_add,List.length_map];exact hkl) ?_|refine Ix.intro hget ?_)|refine zG ?_|apply zA|(apply zI;intro h)|exact zT));(all_goals conv=>whnf)
  ·refine⟨k+1,⟨hkl,all_succ hy h hin⟩,by omega,?_⟩
   rw[Int.natCast_add,Int.natCast_one]
   (exact leA)
  all_goals first
   |exact⟨_,Weak.refl,hI fun z hz=>by rw[hy]at hz;cases hz;simp_all[ltS]⟩
   |(refine⟨_,Weak.refl,?_⟩
     have:=hK _ _ (PutR.uni k y hc1 hn1 hy h)
     rw[Nat.zero_add,List.nil_append]
     rw[List.map_set]at this
     exact this)
 ·have hnone:l[k]? =none:=List.getElem?_eq_none hkl
  (repeat' ((conv=>whnf);first|(with_reducible first|refine in_map hkl ?_|refine Sb.intro 0 k rfl rfl (Nat.zero_le _) (by rw[List.length_map];omega) ?_|refine Sb.intro k l.length rfl (by rw[List.length_map]) (by omega) (by rw[List.length_map];exact Nat.le_refl _) ?_|refine sl_map (by omega) ?_)|refine zG ?_|apply zA|(apply zI;intro h)|exact zT));(all_goals conv=>whnf)
  all_goals first
   |exact⟨_,Weak.refl,hI fun z hz=>by rw[hnone]at hz;cases hz⟩
theorem chChk(t:Tp)(ht:t.edges.length<=5)(hd:t.devs.length<=100)(i:Nt)(hf:Few i){K:KT}(hK:∀e:Int,K (.v (.int .i64 e)) []):
  ACall Tryz.prog 74 [encT t,encNt i] [] K:=by
 have hw:=hf.sml.w;have hs:=hf.sml.t;have hp:=hf.sml.p;have hh:=hf.sml.h
 have hg:=hf.g3;have hv:=hf.s3
 refine ofh17Chk rfl rfl ?_
 (repeat' ((conv=>whnf);first|(with_reducible first|refine cuCompB t (by omega) ?_|refine cjVal i hf.sml fun b hb=>?_)|refine zG ?_|apply zA|(apply zI;intro h)|exact zT));(all_goals conv=>whnf)
 all_goals first
  |exact hK _
  |skip
 refine Lp.intro Nat (fun n=>⟨2,[(0,boxT t),(1,boxNt i)],[(2,.op 0 0),(3,.op 1 0),(5,.v (.int .i64 n))]⟩) (fun n=>n<=i.grps.length) (fun n=>i.grps.length-n) 0 (Nat.zero_le _) ?_ ?_
 ·(exact leA)
 intro n hn
 rcases Nat.lt_or_ge n i.grps.length with hnl|hnl
 ·obtain⟨x,hx⟩:=gex hnl
  (repeat' ((conv=>whnf);first|(with_reducible first|refine in_map hnl ?_|refine ix_map hx ?_|refine chGrp t ht i hf _ fun rs e hl hr=>?_)|refine zG ?_|apply zA|(apply zI;intro h)|exact zT));(all_goals conv=>whnf)
  all_goals first
   |exact hK _
   |(refine⟨n+1,hnl,by omega,?_⟩
     rw[Int.natCast_add,Int.natCast_one]
     (exact leA)
     done)
 (repeat' ((conv=>whnf);first|refine zG ?_|apply zA|(apply zI;intro h)|exact zT));(all_goals conv=>whnf)
 refine Lp.intro Nat (fun n=>⟨2,[(0,boxT t),(1,boxNt i)],[(2,.op 0 0),(3,.op 1 0),(8,.v (.int .i64 n))]⟩) (fun n=>n<=i.svcs.length) (fun n=>i.svcs.length-n) 0 (Nat.zero_le _) ?_ ?_
 ·(exact leA)
 clear hnl hn n
 intro n hn
 rcases Nat.lt_or_ge n i.svcs.length with hnl|hnl
 ·obtain⟨x,hx⟩:=gex hnl
  (repeat' ((conv=>whnf);first|(with_reducible first|refine in_map hnl ?_|refine ix_map hx ?_|refine chSvc t i hf _ fun rs e hl hr=>?_)|refine zG ?_|apply zA|(apply zI;intro h)|exact zT));(all_goals conv=>whnf)
  all_goals first
   |exact hK _
   |(refine⟨n+1,hnl,by omega,?_⟩
     rw[Int.natCast_add,Int.natCast_one]
     (exact leA)
     done)
 (repeat' ((conv=>whnf);first|refine zG ?_|apply zA|(apply zI;intro h)|exact zT));(all_goals conv=>whnf)
 refine Lp.intro Nat (fun n=>⟨2,[(0,boxT t),(1,boxNt i)],[(2,.op 0 0),(3,.op 1 0),(11,.v (.int .i64 n))]⟩) (fun n=>n<=i.sts.length) (fun n=>i.sts.length-n) 0 (Nat.zero_le _) ?_ ?_
 ·(exact leA)
 clear hnl hn n
 intro n hn
 rcases Nat.lt_or_ge n i.sts.length with hnl|hnl
 ·obtain⟨x,hx⟩:=gex hnl
  (repeat' ((conv=>whnf);first|(with_reducible first|refine in_map hnl ?_|refine ix_map hx ?_|refine chStm t ht i hf n hnl fun s e hs hr=>?_|refine chCls t _ hd fun b=>?_|refine cjFindW _ _ hf.sml.w fun r r0 r1=>?_)|refine zG ?_|apply zA|(apply zI;intro h)|exact zT));(all_goals conv=>whnf)
  all_goals first
   |exact hK _
   |(refine⟨n+1,hnl,by omega,?_⟩
     rw[Int.natCast_add,Int.natCast_one]
     (exact leA)
     done)
 (repeat' ((conv=>whnf);first|refine zG ?_|apply zA|(apply zI;intro h)|exact zT));(all_goals conv=>whnf)
 refine Lp.intro Nat (fun n=>⟨2,[(0,boxT t),(1,boxNt i)],[(2,.op 0 0),(3,.op 1 0),(15,.v (.int .i64 n))]⟩) (fun n=>n<=i.pubs.length) (fun n=>i.pubs.length-n) 0 (Nat.zero_le _) ?_ ?_
 ·(exact leA)
 clear hnl hn n
 intro n hn
 rcases Nat.lt_or_ge n i.pubs.length with hnl|hnl
 ·obtain⟨x,hx⟩:=gex hnl
  (repeat' ((conv=>whnf);first|(with_reducible first|refine in_map hnl ?_|refine ix_map hx ?_|refine cuEdge t _ (by omega) ?_)|refine zG ?_|apply zA|(apply zI;intro h)|exact zT));(all_goals conv=>whnf)
  all_goals first
   |exact hK _
   |(refine⟨n+1,hnl,by omega,?_⟩
     rw[Int.natCast_add,Int.natCast_one]
     (exact leA)
     done)
 (repeat' ((conv=>whnf);first|refine zG ?_|apply zA|(apply zI;intro h)|exact zT));(all_goals conv=>whnf)
 refine Lp.intro Nat (fun n=>⟨2,[(0,boxT t),(1,boxNt i)],[(2,.op 0 0),(3,.op 1 0),(16,.v (.int .i64 n))]⟩) (fun n=>n<=i.hids.length) (fun n=>i.hids.length-n) 0 (Nat.zero_le _) ?_ ?_
 ·(exact leA)
 clear hnl hn n
 intro n hn
 rcases Nat.lt_or_ge n i.hids.length with hnl|hnl
 ·obtain⟨x,hx⟩:=gex hnl
  (repeat' ((conv=>whnf);first|(with_reducible first|refine in_map hnl ?_|refine ix_map hx ?_|refine cuEdge t _ (by omega) ?_|refine chGrp t ht i hf _ fun rs e hl hr=>?_)|refine zG ?_|apply zA|(apply zI;intro h)|exact zT));(all_goals conv=>whnf)
  all_goals first
   |exact hK _
   |(refine⟨n+1,hnl,by omega,?_⟩
     rw[Int.natCast_add,Int.natCast_one]
     (exact leA)
     done)
 (repeat' ((conv=>whnf);first|refine zG ?_|apply zA|(apply zI;intro h)|exact zT));(all_goals conv=>whnf)
 exact hK _
theorem chPut0(c:ByteArray)(s:List Bx)(hs:setB s=true){K:KT}(hK:∀(l':List Insp) (e:Int),PutR [] c s l' e->K (.tup [.lst (l'.map encIn),.v (.int .i64 e)]) []):
  ACall Tryz.prog 79 [.lst [],.v (.string c),encXs s] [] K:=chPut [] c s (by simp) hs (fun x h=>by simp at h) hK
theorem cr4Un0(b:List Bx)(hb:b.length<1000000000){K:KT}(hK:K (.tup [encXs (combP orB [] b).1,.v (.int .i64 (combP orB [] b).2)]) []):ACall Tryz.prog 78 [.lst [],encXs b] [] K:=cr4Un [] b (by simp) hb hK
noncomputable abbrev celPol(fl:Bool)(p:Pol):List AV:=match fl with
 |true=>[.nils,.nils]
 |false=>[encXs p.allow,.lst (p.insp.map encIn)]
noncomputable abbrev celSm(x:Sm):List AV:=[.sb x.permit,.v (.string x.frm),.v (.string x.to),.v (.string x.svc),.sb x.exc,.v (.string x.exF),.v (.string x.exT),.v (.string x.cls),.v (.string x.dur),.v (.int .i64 x.pri)]
structure AtG (t:Tp) (i:Nt) (n k:Nat) (fl:Bool) (rest:List Bx) (p:Pol):Prop where
 kn:k<=n
 inv:AtInv t rest p
 rr:Resp t i rest
 ra:Resp t i p.allow
 il:p.insp.length<=k
 z:fl=true->p=⟨[],[]⟩
theorem putR_len{l l':List Insp}{c:ByteArray}{s:List Bx}{e:Int}(h:PutR l c s l' e):l'.length<=l.length+1:=by
 cases h with
 |skip=>omega
 |ins k _ _ hk=>rw[List.length_append,List.length_cons,List.length_take,List.length_drop];omega
 |uni=>rw[List.length_set];omega
theorem chAt(t:Tp)(ht:t.edges.length<=5)(hd:t.devs.length<=100)(i:Nt)(hf:Few i)(m:Int){K:KT}(hK:∀(p:Pol) (e:Int),(e=0->PolOk t p/\Resp t i p.allow/\p.insp.length<=2000000)->K (.tup [encPol p,.v (.int .i64 e)]) []):
  ACall Tryz.prog 35 [encT t,encNt i,.v (.int .i64 m)] [] K:=by
 have hts:=hf.sml.t
 have hKz:∀e:Int,e≠0->∃y,Weak (.tup [.agg [.nils,.nils],.v (.int .i64 e)]) y/\K y []:=fun e he=>
  ⟨_,Weak.tup2 (Weak.agg (ys:=[.lst [],.lst []]) ⟨Weak.nils,Weak.nils,trivial⟩) Weak.refl,hK ⟨[],[]⟩ e fun h=>absurd h he⟩
 refine ACall.weak (ofh18At rfl rfl ?_)
 by_cases hc:compB t=true
 case neg=>
  have hc':compB t=false:=by simpa using hc
  (repeat' ((conv=>whnf);first|(with_reducible refine cuCompB t (by omega) ?_)|refine zG ?_|apply zA|(apply zI;intro h)|exact zT));(all_goals conv=>whnf)
  all_goals first
   |exact hKz _ (by decide)
   |(exfalso;simp_all;done)
 (repeat' ((conv=>whnf);first|(with_reducible first|refine cuCompB t (by omega) ?_|refine cjVal i hf.sml fun b hb=>?_|refine chChk t ht hd i hf fun e=>?_|refine chReal t ht hc ?_|refine chOrd i hf.sml m fun ord hor hol=>?_)|refine zG ?_|apply zA|(apply zI;intro h)|exact zT));(all_goals conv=>whnf)
 all_goals first
  |exact hKz _ (by decide)
  |exact hKz _ (by assumption)
  |(exfalso;simp_all;done)
  |skip
 have hcl:=hb (by with_reducible assumption)
 refine Lp.intro (Nat×Bool×List Bx×Pol) (fun g=>⟨4,[(0,boxT t),(1,boxNt i),(2,.box [.nils,.nils]),(3,.box (celPol g.2.1 g.2.2.2))],[(3,.op 0 0),(4,.op 1 0),(6,.op 2 0),(9,encXs g.2.2.1),(11,.op 3 0),(12,.lst (ord.map vN)),(13,.v (.int .i64 g.1))]⟩)
  (fun g=>AtG t i ord.length g.1 g.2.1 g.2.2.1 g.2.2.2) (fun g=>ord.length-g.1) (0,true,(realP t).1,⟨[],[]⟩) ⟨Nat.zero_le _,atInv_start t,Resp.real,Resp.nil,Nat.zero_le _,fun _=>rfl⟩ ?_ ?_
 ·(exact leA)
 rintro⟨k,fl,rest,p⟩ hg
 simp only at hg⊢
 have hkn:=hg.kn
 have hrl:=setB_len hg.inv.rs
 have hpl:=setB_len hg.inv.al
 have hil:=hg.il
 rcases Nat.lt_or_ge k ord.length with hkl|hkl
 ·obtain⟨n,hn⟩:=gex hkl
  have hnl:=hor n (List.mem_of_getElem? hn)
  obtain⟨x,hx⟩:=gex hnl
  have hxc:=hcl x (List.mem_of_getElem? hx)
  have hfin:∀{s:List Bx} {l':List Insp} {e:Int},setB s=true->Resp t i s->(combP anB rest s).2=0->(combP woB rest s).2=0->(combP orB p.allow (combP anB rest s).1).2=0->PutR p.insp x.cls (combP anB rest s).1 l' e->e=0->
   AtG t i ord.length (k+1) false (combP woB rest s).1 ⟨(combP orB p.allow (combP anB rest s).1).1,l'⟩:=fun hs hr e1 e2 e3 hp he=>
   ⟨hkl,hg.inv.permit hs hxc e1 e2 e3 hp he,Resp.comb hg.rr hr hg.inv.rs hs,Resp.comb hg.ra (Resp.comb hg.rr hr hg.inv.rs hs) hg.inv.al (setB_combP ..),by have:=putR_len hp;simp only;omega,fun h=>by cases h⟩
  have hden:∀{s:List Bx},setB s=true->Resp t i s->AtG t i ord.length (k+1) fl (combP woB rest s).1 p:=fun hs hr=>⟨hkl,hg.inv.deny hs,Resp.comb hg.rr hr hg.inv.rs hs,hg.ra,by omega,hg.z⟩
  have hsl:=hg.inv.st
  have hz:=hg.z
  clear hg hb hcl hor
  cases fl with
  |true=>
   obtain rfl:=hz rfl
   (repeat' ((conv=>whnf);first|(with_reducible first|refine in_map hkl ?_|refine ix_map hn ?_|refine in_map hnl ?_|refine ix_map hx ?_|refine chStm t ht i hf n hnl fun s e hs hr=>?_|refine cr4Int rest _ hrl (setB_len (by assumption)) ?_|refine cr4Sub rest _ hrl (setB_len (by assumption)) ?_)|refine zG ?_|apply zA|(apply zI;intro h)|exact zT));(all_goals conv=>whnf)
   all_goals first
    |exact hKz _ (by with_reducible assumption)
    |skip
   refine Jn.intro Bool (fun b=>match b with
    |true=>⟨5,[(0,boxT t),(1,boxNt i),(2,.box [.nils,.nils]),(3,.box [encXs (combP orB [] (combP anB rest s).1).1,.nils]),(4,.box (celSm x))],[(3,.op 0 0),(4,.op 1 0),(6,.op 2 0),(9,encXs (combP woB rest s).1),(11,.op 3 0),(12,.lst (ord.map vN)),(13,.v (.int .i64 k)),(14,.op 4 0),(17,encXs (combP anB rest s).1),(18,.v (.int .i64 (combP orB [] (combP anB rest s).1).2))]⟩
    |false=>⟨5,[(0,boxT t),(1,boxNt i),(2,.box [.nils,.nils]),(3,.box [.nils,.nils]),(4,.box (celSm x))],[(3,.op 0 0),(4,.op 1 0),(6,.op 2 0),(9,encXs (combP woB rest s).1),(11,.op 3 0),(12,.lst (ord.map vN)),(13,.v (.int .i64 k)),(14,.op 4 0),(17,encXs (combP anB rest s).1),(18,.v (.int .i64 (combP woB rest s).2))]⟩) (fun b=>b=true↔((combP woB rest s).2=0/\x.permit=true)) ?_ ?_
   ·(repeat' ((conv=>whnf);first|(with_reducible refine cr4Un0 _ (setB_len (setB_combP ..)) ?_)|refine zG ?_|apply zA|(apply zI;intro h)|exact zT));(all_goals conv=>whnf)
    ·refine⟨true,⟨fun _=>⟨by with_reducible assumption,by with_reducible assumption⟩,fun _=>rfl⟩,?_⟩
     (exact leA)
    all_goals
     refine⟨false,⟨fun h=>(by cases h),fun h=>(by simp_all)⟩,?_⟩
     (exact leA)
   intro b hb
   cases b with
   |true=>
    obtain⟨he2,hpm⟩:=hb.1 rfl
    refine Jn.intro (Option (List Insp×Int)) (fun g=>match g with
     |some q=>⟨4,[(0,boxT t),(1,boxNt i),(2,.box [.nils,.nils]),(3,.box [encXs (combP orB [] (combP anB rest s).1).1,.lst (q.1.map encIn)])],[(3,.op 0 0),(4,.op 1 0),(6,.op 2 0),(9,encXs (combP woB rest s).1),(11,.op 3 0),(12,.lst (ord.map vN)),(13,.v (.int .i64 k)),(18,.v (.int .i64 q.2))]⟩
     |none=>⟨4,[(0,boxT t),(1,boxNt i),(2,.box [.nils,.nils]),(3,.box [encXs (combP orB [] (combP anB rest s).1).1,.nils])],[(3,.op 0 0),(4,.op 1 0),(6,.op 2 0),(9,encXs (combP woB rest s).1),(11,.op 3 0),(12,.lst (ord.map vN)),(13,.v (.int .i64 k)),(18,.v (.int .i64 (combP orB [] (combP anB rest s).1).2))]⟩) (fun g=>match g with
     |some q=>PutR [] x.cls (combP anB rest s).1 q.1 q.2/\(combP orB [] (combP anB rest s).1).2=0
     |none=>(combP orB [] (combP anB rest s).1).2≠0) ?_ ?_
    ·(repeat' ((conv=>whnf);first|(with_reducible refine chPut0 _ _ (setB_combP ..) fun l' e hp=>?_)|refine zG ?_|apply zA|(apply zI;intro h)|exact zT));(all_goals conv=>whnf)
     all_goals first
      |(refine⟨some (l',e),⟨hp,by with_reducible assumption⟩,?_⟩
        (exact leA)
        done)
      |(refine⟨none,by with_reducible assumption,?_⟩
        (exact leA)
        done)
      |(exfalso;simp_all;done)
    rintro(_|⟨l',e⟩) hg
    ·(repeat' ((conv=>whnf);first|refine zG ?_|apply zA|(apply zI;intro h)|exact zT));(all_goals conv=>whnf)
     all_goals first
      |exact hKz _ (by with_reducible assumption)
      |(exfalso;simp_all;done)
    ·obtain⟨hp,he3⟩:=hg
     (repeat' ((conv=>whnf);first|refine zG ?_|apply zA|(apply zI;intro h)|exact zT));(all_goals conv=>whnf)
     all_goals first
      |exact hKz _ (by with_reducible assumption)
      |(refine⟨(k+1,false,(combP woB rest s).1,⟨(combP orB [] (combP anB rest s).1).1,l'⟩),hfin (by with_reducible assumption) (by with_reducible assumption) (by with_reducible assumption) he2 he3 hp (by with_reducible assumption),by simp only;omega,?_⟩
        simp only[Int.natCast_add,Int.natCast_one]
        (exact leA)
        done)
   |false=>
    have hb':¬((combP woB rest s).2=0/\x.permit=true):=fun h=>by have:=hb.2 h;cases this
    refine Jn.at ⟨4,[(0,boxT t),(1,boxNt i),(2,.box [.nils,.nils]),(3,.box [.nils,.nils])],[(3,.op 0 0),(4,.op 1 0),(6,.op 2 0),(9,encXs (combP woB rest s).1),(11,.op 3 0),(12,.lst (ord.map vN)),(13,.v (.int .i64 k)),(18,.v (.int .i64 (combP woB rest s).2))]⟩ ?_ ?_
    ·(repeat' ((conv=>whnf);first|refine zG ?_|apply zA|(apply zI;intro h)|exact zT));(all_goals conv=>whnf)
     all_goals first
      |(exfalso;exact hb' ⟨by with_reducible assumption,by with_reducible assumption⟩)
      |(refine⟨(),trivial,?_⟩
        (exact leA)
        done)
    ·(repeat' ((conv=>whnf);first|refine zG ?_|apply zA|(apply zI;intro h)|exact zT));(all_goals conv=>whnf)
     all_goals first
      |exact hKz _ (by with_reducible assumption)
      |(refine⟨(k+1,true,(combP woB rest s).1,⟨[],[]⟩),hden (by with_reducible assumption) (by with_reducible assumption),by simp only;omega,?_⟩
        simp only[Int.natCast_add,Int.natCast_one]
        (exact leA)
        done)
  |false=>
   (repeat' ((conv=>whnf);first|(with_reducible first|refine in_map hkl ?_|refine ix_map hn ?_|refine in_map hnl ?_|refine ix_map hx ?_|refine chStm t ht i hf n hnl fun s e hs hr=>?_|refine cr4Int rest _ hrl (setB_len (by assumption)) ?_|refine cr4Sub rest _ hrl (setB_len (by assumption)) ?_)|refine zG ?_|apply zA|(apply zI;intro h)|exact zT));(all_goals conv=>whnf)
   all_goals first
    |exact hKz _ (by with_reducible assumption)
    |skip
   refine Jn.intro Bool (fun b=>match b with
    |true=>⟨5,[(0,boxT t),(1,boxNt i),(2,.box [.nils,.nils]),(3,.box [encXs (combP orB p.allow (combP anB rest s).1).1,.lst (p.insp.map encIn)]),(4,.box (celSm x))],[(3,.op 0 0),(4,.op 1 0),(6,.op 2 0),(9,encXs (combP woB rest s).1),(11,.op 3 0),(12,.lst (ord.map vN)),(13,.v (.int .i64 k)),(14,.op 4 0),(17,encXs (combP anB rest s).1),(18,.v (.int .i64 (combP orB p.allow (combP anB rest s).1).2))]⟩
    |false=>⟨5,[(0,boxT t),(1,boxNt i),(2,.box [.nils,.nils]),(3,.box [encXs p.allow,.lst (p.insp.map encIn)]),(4,.box (celSm x))],[(3,.op 0 0),(4,.op 1 0),(6,.op 2 0),(9,encXs (combP woB rest s).1),(11,.op 3 0),(12,.lst (ord.map vN)),(13,.v (.int .i64 k)),(14,.op 4 0),(17,encXs (combP anB rest s).1),(18,.v (.int .i64 (combP woB rest s).2))]⟩) (fun b=>b=true↔((combP woB rest s).2=0/\x.permit=true)) ?_ ?_
   ·(repeat' ((conv=>whnf);first|(with_reducible refine cr4Un p.allow _ hpl (setB_len (setB_combP ..)) ?_)|refine zG ?_|apply zA|(apply zI;intro h)|exact zT));(all_goals conv=>whnf)
    ·refine⟨true,⟨fun _=>⟨by with_reducible assumption,by with_reducible assumption⟩,fun _=>rfl⟩,?_⟩
     (exact leA)
    all_goals
     refine⟨false,⟨fun h=>(by cases h),fun h=>(by simp_all)⟩,?_⟩
     (exact leA)
   intro b hb
   cases b with
   |true=>
    obtain⟨he2,hpm⟩:=hb.1 rfl
    refine Jn.intro (Option (List Insp×Int)) (fun g=>match g with
     |some q=>⟨4,[(0,boxT t),(1,boxNt i),(2,.box [.nils,.nils]),(3,.box [encXs (combP orB p.allow (combP anB rest s).1).1,.lst (q.1.map encIn)])],[(3,.op 0 0),(4,.op 1 0),(6,.op 2 0),(9,encXs (combP woB rest s).1),(11,.op 3 0),(12,.lst (ord.map vN)),(13,.v (.int .i64 k)),(18,.v (.int .i64 q.2))]⟩
     |none=>⟨4,[(0,boxT t),(1,boxNt i),(2,.box [.nils,.nils]),(3,.box [encXs (combP orB p.allow (combP anB rest s).1).1,.lst (p.insp.map encIn)])],[(3,.op 0 0),(4,.op 1 0),(6,.op 2 0),(9,encXs (combP woB rest s).1),(11,.op 3 0),(12,.lst (ord.map vN)),(13,.v (.int .i64 k)),(18,.v (.int .i64 (combP orB p.allow (combP anB rest s).1).2))]⟩) (fun g=>match g with
     |some q=>PutR p.insp x.cls (combP anB rest s).1 q.1 q.2/\(combP orB p.allow (combP anB rest s).1).2=0
     |none=>(combP orB p.allow (combP anB rest s).1).2≠0) ?_ ?_
    ·(repeat' ((conv=>whnf);first|(with_reducible refine chPut p.insp _ _ (by omega) (setB_combP ..) hsl fun l' e hp=>?_)|refine zG ?_|apply zA|(apply zI;intro h)|exact zT));(all_goals conv=>whnf)
     all_goals first
      |(refine⟨some (l',e),⟨hp,by with_reducible assumption⟩,?_⟩
        (exact leA)
        done)
      |(refine⟨none,by with_reducible assumption,?_⟩
        (exact leA)
        done)
      |(exfalso;simp_all;done)
    rintro(_|⟨l',e⟩) hg
    ·(repeat' ((conv=>whnf);first|refine zG ?_|apply zA|(apply zI;intro h)|exact zT));(all_goals conv=>whnf)
     all_goals first
      |exact hKz _ (by with_reducible assumption)
      |(exfalso;simp_all;done)
    ·obtain⟨hp,he3⟩:=hg
     (repeat' ((conv=>whnf);first|refine zG ?_|apply zA|(apply zI;intro h)|exact zT));(all_goals conv=>whnf)
     all_goals first
      |exact hKz _ (by with_reducible assumption)
      |(refine⟨(k+1,false,(combP woB rest s).1,⟨(combP orB p.allow (combP anB rest s).1).1,l'⟩),hfin (by with_reducible assumption) (by with_reducible assumption) (by with_reducible assumption) he2 he3 hp (by with_reducible assumption),by simp only;omega,?_⟩
        simp only[Int.natCast_add,Int.natCast_one]
        (exact leA)
        done)
   |false=>
    have hb':¬((combP woB rest s).2=0/\x.permit=true):=fun h=>by have:=hb.2 h;cases this
    refine Jn.at ⟨4,[(0,boxT t),(1,boxNt i),(2,.box [.nils,.nils]),(3,.box [encXs p.allow,.lst (p.insp.map encIn)])],[(3,.op 0 0),(4,.op 1 0),(6,.op 2 0),(9,encXs (combP woB rest s).1),(11,.op 3 0),(12,.lst (ord.map vN)),(13,.v (.int .i64 k)),(18,.v (.int .i64 (combP woB rest s).2))]⟩ ?_ ?_
    ·(repeat' ((conv=>whnf);first|refine zG ?_|apply zA|(apply zI;intro h)|exact zT));(all_goals conv=>whnf)
     all_goals first
      |(exfalso;exact hb' ⟨by with_reducible assumption,by with_reducible assumption⟩)
      |(refine⟨(),trivial,?_⟩
        (exact leA)
        done)
    ·(repeat' ((conv=>whnf);first|refine zG ?_|apply zA|(apply zI;intro h)|exact zT));(all_goals conv=>whnf)
     all_goals first
      |exact hKz _ (by with_reducible assumption)
      |(refine⟨(k+1,false,(combP woB rest s).1,p),hden (by with_reducible assumption) (by with_reducible assumption),by simp only;omega,?_⟩
        simp only[Int.natCast_add,Int.natCast_one]
        (exact leA)
        done)
 ·have hpol:PolOk t p/\Resp t i p.allow/\p.insp.length<=2000000:=⟨hg.inv.pol hc,hg.ra,by omega⟩
  have hz:=hg.z
  cases fl with
  |true=>
   obtain rfl:=hz rfl
   (repeat' ((conv=>whnf);first|refine zG ?_|apply zA|(apply zI;intro h)|exact zT));(all_goals conv=>whnf)
   exact⟨_,Weak.tup2 (Weak.agg (ys:=[.lst [],.lst []]) ⟨Weak.nils,Weak.nils,trivial⟩) Weak.refl,hK ⟨[],[]⟩ 0 fun _=>hpol⟩
  |false=>
   (repeat' ((conv=>whnf);first|refine zG ?_|apply zA|(apply zI;intro h)|exact zT));(all_goals conv=>whnf)
   exact⟨_,Weak.refl,hK p 0 fun _=>hpol⟩
noncomputable def gnSpP:Ctx:={N:=36,np:=1,own:=at1 13 (true) (fun _=>false),plan:=at1 2 (some (.one 0 true (.one 2 true (.wch 1 (.one 3 false (.one 4 true (.one 5 true (.one 6 true (.one 7 true (.one 8 false (.done))))))))))) (fun _=>none)}
noncomputable def bnSpP:Code:=bdy Tryz.f43
abbrev ofnSpP:=@ofC Tryz.prog gnSpP 43 Tryz.f43 bnSpP Tryz.func43 (by kernel_rfl) (by kernel_rfl) (by kernel_rfl) (by kernel_rfl)
noncomputable def gnPref:Ctx:={N:=34,np:=1,own:=at1 13 (true) (at1 68 (true) (fun _=>false))}
noncomputable def bnPref:Code:=bdy Tryz.f44
abbrev ofnPref:=@ofC Tryz.prog gnPref 44 Tryz.f44 bnPref Tryz.func44 (by kernel_rfl) (by kernel_rfl) (by kernel_rfl) (by kernel_rfl)
noncomputable def gnSpT:Ctx:={N:=206,np:=1,own:=at1 13 (true) (at1 43 (true) (at1 44 (true) (at1 26 (true) (fun _=>false)))),plan:=at1 6 (some (.one 0 true (.one 3 true (.one 7 true (.wch 1 (.alt 2 (.one 4 false (.one 5 true (.wch 6 (.one 8 false (.one 9 true (.one 10 true (.one 11 false (.one 12 false (.one 13 true (.one 14 false (.done))))))))))) (.alt 4 (.alt 2 (.one 5 true (.wch 6 (.one 8 false (.one 9 true (.one 10 true (.one 11 false (.one 12 false (.one 13 true (.one 14 false (.done)))))))))) (.alt 8 (.one 9 true (.one 2 false (.one 5 true (.one 6 true (.one 10 true (.one 11 false (.one 12 false (.one 13 true (.one 14 false (.done)))))))))) (.stop))) (.stop)))))))) (at1 9 (some (.one 0 true (.one 3 true (.wch 1 (.alt 2 (.one 4 false (.one 5 true (.one 6 true (.one 7 true (.one 8 true (.one 9 false (.done))))))) (.alt 4 (.one 2 false (.one 5 true (.one 6 true (.one 7 true (.one 8 true (.one 9 false (.done))))))) (.stop))))))) (at1 11 (some (.one 0 true (.one 2 true (.one 5 true (.one 7 true (.wch 1 (.one 3 false (.one 4 true (.one 6 false (.one 8 false (.one 9 true (.one 10 false (.one 11 false (.one 12 true (.one 13 false (.done)))))))))))))))) (at1 14 (some (.one 0 true (.one 3 true (.wch 1 (.alt 2 (.one 4 false (.one 5 true (.one 6 true (.one 7 true (.one 8 true (.one 9 false (.done))))))) (.alt 4 (.one 2 false (.one 5 true (.one 6 true (.one 7 true (.one 8 true (.one 9 false (.done))))))) (.stop))))))) (at1 17 (some (.one 0 true (.one 2 true (.wch 1 (.one 3 false (.one 4 true (.one 5 true (.one 6 true (.one 7 false (.done)))))))))) (at1 20 (some (.one 0 true (.one 2 true (.one 6 true (.one 7 true (.one 8 true (.one 9 true (.one 10 true (.one 11 true (.one 12 true (.one 13 true (.one 14 true (.one 15 true (.wch 1 (.wch 3 (.one 4 true (.one 5 true (.one 16 false (.one 17 true (.one 18 true (.one 19 false (.done)))))))))))))))))))))) (at1 23 (some (ln [1,3,5,7,9,11,13,15,17,19,20])) (at1 26 (some (ln [1,3,5,7,9,11,12,14,17,18])) (at1 29 (some (.one 0 true (.one 3 true (.wch 1 (.alt 2 (.one 4 false (.one 5 true (.one 6 true (.one 7 true (.one 8 true (.one 9 false (.done))))))) (.alt 4 (.one 2 false (.one 5 true (.one 6 true (.one 7 true (.one 8 true (.one 9 false (.done))))))) (.stop))))))) (at1 31 (some (.one 0 true (.one 2 true (.wch 1 (.one 3 false (.one 4 false (.one 5 false (.one 6 true (.one 7 false (.done)))))))))) (at1 39 (some (.one 0 true (.one 3 true (.wch 1 (.alt 2 (.one 4 false (.one 5 true (.one 6 true (.one 7 true (.one 8 true (.one 9 false (.done))))))) (.alt 4 (.one 2 false (.one 5 true (.one 6 true (.one 7 true (.one 8 true (.one 9 false (.done))))))) (.stop))))))) (fun _=>none)))))))))))}
noncomputable def bnSpT:Code:=bdy Tryz.f14
abbrev ofnSpT:=@ofC Tryz.prog gnSpT 14 Tryz.f14 bnSpT Tryz.func14 (by kernel_rfl) (by kernel_rfl) (by kernel_rfl) (by kernel_rfl)
theorem bb_u32(op:BinOp)(a b:Int):0<=bBits op .u32 a b/\bBits op .u32 a b<=4294967295:=by
 have h:∀e:Int,0<=IntKind.u32.wrap e/\IntKind.u32.wrap e<=4294967295:=fun e=>by
  simp only[IntKind.wrap,IntKind.signed,IntKind.bits];simp;omega
 unfold bBits
 simp only
 split<;>exact h _
theorem wr_i64_any{e:Int}{K:Int->Prop}(h:∀r,K r):Wr .i64 e K:=wr_any h
theorem ix_intsB{xs:List AV}{i:Nat}{K:AV->Prop}(L:List Int)(n:Nat)(lo hi:Int)(h:xs=L.map fun c=>.v (.int .i64 c))(hn:L.length=n)(hb:(L.all fun c=>decide (lo<=c)&&decide (c<=hi))=true)(hi':i<n)(hk:∀c,lo<=c->c<=hi->K (.v (.int .i64 c))):Ix xs i K:=
 ix_ints L n h hn hi' fun c hc=>by
  have:=List.all_eq_true.1 hb c hc
  simp only[Bool.and_eq_true,decide_eq_true_eq]at this
  exact hk c this.1 this.2
theorem cnSpP(raw:List Int)(pos:Nat)(p:Pf)(hp:pos<=raw.length)(hr:raw.length<=9223372036854775807){K:KT}
  (hK:∀(q:Pf) (pos':Nat),pos'<=raw.length->K (encP q) [tapeO raw pos']):ACall Tryz.prog 43 [.op 0 0,encP p] [tapeO raw pos] K:=by
 have b0:=p.a0;have b1:=p.a1
 refine ofnSpP rfl rfl ?_
 (repeat' ((conv=>whnf);first|(with_reducible first|refine nNext raw _ _ (by omega) (by assumption) hr fun m1 p1 hm1 hp1=>?_|refine in_nat (by omega) ?_|refine ix_ints [-1,33,0,32] 4 rfl rfl (by omega) fun c hc=>?_|refine wr_u32_any fun r r0 r1=>?_|refine wr_i64_any fun r=>?_)|refine zG ?_|apply zA|(apply zI;intro h)|exact zT));(all_goals conv=>whnf)
 ·exact hK ⟨p.addr,c,b0,b1⟩ _ (by assumption)
 ·exact hK ⟨bBits .or .u32 p.addr 1,p.bits,(bb_u32 ..).1,(bb_u32 ..).2⟩ _ (by assumption)
 ·rename_i r
  exact hK ⟨p.addr,r,b0,b1⟩ _ (by assumption)
 ·exact hK ⟨bBits .xor .u32 p.addr r,p.bits,(bb_u32 ..).1,(bb_u32 ..).2⟩ _ (by assumption)
theorem cnPref(raw:List Int)(pos:Nat)(hp:pos<=raw.length)(hr:raw.length<=9223372036854775807){K:KT}
  (hK:∀(q:Pf) (pos':Nat),pos'<=raw.length->K (encP q) [tapeO raw pos']):ACall Tryz.prog 44 [.op 0 0] [tapeO raw pos] K:=by
 refine ofnPref rfl rfl ?_
 (repeat' ((conv=>whnf);first|(with_reducible first|refine nNext raw _ _ (by omega) (by assumption) hr fun m1 p1 hm1 hp1=>?_|refine in_nat (by omega) ?_|refine cnSub _ (by omega) ?_|refine ix_intsB [32,31,24,25,8,1,0,16,30,23] 10 0 32 rfl rfl (by decide) (by omega) fun c c0 c1=>?_|refine cnAddr raw _ (by assumption) hr fun a p2 a0 a1 hp2=>?_|refine wr_u32_any fun r r0 r1=>?_)|refine zG ?_|apply zA|(apply zI;intro h)|exact zT));(all_goals conv=>whnf)
 ·exact hK _ _ (by assumption)
 ·exact hK ⟨r,c,r0,r1⟩ _ (by assumption)
 ·exact hK ⟨a,c,a0,a1⟩ _ (by assumption)
theorem tp_of{D L E P:List AV}{tol:Int}(hD:∀y,y∈D->∃a:Dv,y=encD a)(hL:∀y,y∈L->∃a:Lk,y=encL a)(hE:∀y,y∈E->∃a:Ed,y=encE a)(hP:∀y,y∈P->∃a:Pf,y=encP a):
  ∃t:Tp,AV.agg [.lst D,.lst L,.lst E,.lst P,.v (.int .i64 tol)]=encT t/\t.edges.map encE=E:=by
 obtain⟨d,rfl⟩:=list_enc encD hD
 obtain⟨l,rfl⟩:=list_enc encL hL
 obtain⟨e,rfl⟩:=list_enc encE hE
 obtain⟨p,rfl⟩:=list_enc encP hP
 exact⟨⟨d,l,e,p,tol⟩,rfl,rfl⟩
theorem eD(n:ByteArray)(c:Int)(r v:Bool)(s:ByteArray):∃a:Dv,AV.agg [.v (.string n),.v (.int .i64 c),.sb r,.sb v,.v (.string s)]=encD a:=⟨⟨n,c,r,v,s⟩,rfl⟩
theorem eL(a b c:Int):∃x:Lk,AV.agg [.v (.int .i64 a),.v (.int .i64 b),.v (.int .i64 c)]=encL x:=⟨⟨a,b,c⟩,rfl⟩
theorem eE(n:ByteArray)(d:Int)(z:ByteArray)(p:Pf)(b:Bool):∃a:Ed,AV.agg [.v (.string n),.v (.int .i64 d),.v (.string z),.v (.int .u32 p.addr),.v (.int .i64 p.bits),.sb b]=encE a:=⟨⟨n,d,z,p,b⟩,rfl⟩
theorem eP(p:Pf):∃a:Pf,AV.agg [.v (.int .u32 p.addr),.v (.int .i64 p.bits)]=encP a:=⟨p,rfl⟩
theorem all_map{α:Type}{f:α->AV}(l:List α):∀y,y∈l.map f->∃a,y=f a:=fun y hy=>by
 obtain⟨a,_,rfl⟩:=List.mem_map.1 hy;exact⟨a,rfl⟩
theorem all_app{Q:AV->Prop}{l:List AV}{x:AV}(h:∀y,y∈l->Q y)(hx:Q x):∀y,y∈l++[x]->Q y:=fun y hy=>by
 rcases List.mem_append.1 hy with h1|h1
 ·exact h y h1
 ·rw[List.mem_singleton.1 h1];exact hx
theorem all_set{Q:AV->Prop}{l:List AV}{i:Nat}{x:AV}(h:∀y,y∈l->Q y)(hx:Q x):∀y,y∈l.set i x->Q y:=fun y hy=>by
 rcases List.mem_or_eq_of_mem_set hy with h1|h1
 ·exact h y h1
 ·rw[h1];exact hx
theorem all_drop{Q:AV->Prop}{l:List AV}{i:Nat}(h:∀y,y∈l->Q y):∀y,y∈l.drop i->Q y:=fun y hy=>h y (List.mem_of_mem_drop hy)
theorem all_take{Q:AV->Prop}{l:List AV}{i:Nat}(h:∀y,y∈l->Q y):∀y,y∈l.take i->Q y:=fun y hy=>h y (List.mem_of_mem_take hy)
def SpE(t u:Tp):Prop:=u.edges.length<=t.edges.length\/∃e,t.edges[0]? =some e/\u.edges=t.edges++[e]
def SpL(t:Tp)(E:List AV):Prop:=E.length<=t.edges.length\/∃e,t.edges[0]? =some e/\E=t.edges.map encE++[encE e]
theorem encE_inj{x y:Ed}(h:encE x=encE y):x=y:=by
 obtain⟨n,d,z,⟨a,b,_,_⟩,pl⟩:=x
 obtain⟨n',d',z',⟨a',b',_,_⟩,pl'⟩:=y
 simp only[encE,AV.agg.injEq,List.cons.injEq,AV.v.injEq,Value.string.injEq,Value.int.injEq,AV.sb.injEq,true_and,and_true]at h
 obtain⟨rfl,rfl,rfl,rfl,rfl,rfl⟩:=h
 rfl
theorem map_encE_inj:∀{l m:List Ed},l.map encE=m.map encE->l=m
 |[],[],_=>rfl
 |a::l,b::m,h=>by
  rw[List.map_cons,List.map_cons,List.cons.injEq]at h
  rw[encE_inj h.1,map_encE_inj h.2]
 |[],_::_,h=>by cases h
 |_::_,[],h=>by cases h
theorem spL_of{t u:Tp}(h:SpL t (u.edges.map encE)):SpE t u:=by
 rcases h with h|⟨e,he,h⟩
 ·exact .inl (by rwa[List.length_map]at h)
 ·exact .inr ⟨e,he,map_encE_inj (by rw[h,List.map_append];rfl)⟩
theorem cnSpTE(raw:List Int)(pos:Nat)(t:Tp)(ht:t.devs.length<100/\t.links.length<100/\t.edges.length<100/\t.pools.length<100)(hp:pos<=raw.length)(hr:raw.length<=9223372036854775807){K:KT}
  (hK:∀(u:Tp) (pos':Nat),SpE t u->pos'<=raw.length->K (encT u) [tapeO raw pos']):ACall Tryz.prog 14 [.op 0 0,encT t] [tapeO raw pos] K:=by
 obtain⟨l1,l2,l3,l4⟩:=ht
 have hE:∀(D L E P:List AV) (tol:Int) (p':Nat),(∀y,y∈D->∃a:Dv,y=encD a)->(∀y,y∈L->∃a:Lk,y=encL a)->(∀y,y∈E->∃a:Ed,y=encE a)->(∀y,y∈P->∃a:Pf,y=encP a)->SpL t E->p'<=raw.length->K (.agg [.lst D,.lst L,.lst E,.lst P,.v (.int .i64 tol)]) [tapeO raw p']:=fun D L E P tol p' h1 h2 h3 h4 h5 hp'=>by
  obtain⟨u,hu,he⟩:=tp_of (tol:=tol) h1 h2 h3 h4
  rw[hu];exact hK u p' (spL_of (he▸h5)) hp'
 have hK':∀(D:List Dv) (L:List Lk) (E:List Ed) (P:List Pf) (tol:Int) (p':Nat),E.length<=t.edges.length->p'<=raw.length->K (.agg [.lst (D.map encD),.lst (L.map encL),.lst (E.map encE),.lst (P.map encP),.v (.int .i64 tol)]) [tapeO raw p']:=fun D L E P tol p' he hp'=>hK ⟨D,L,E,P,tol⟩ p' (.inl he) hp'
 refine ofnSpT rfl rfl ?_
 (repeat' ((conv=>whnf);first|(with_reducible first|refine cnCopy t (by omega) ?_|refine nNext raw _ _ (by omega) (by assumption) hr fun m1 p1 hm1 hp1=>?_|refine in_nat (by omega) ?_|refine cnSpP raw _ r.pf (by assumption) hr fun q p2 hp2=>?_|refine cnPref raw _ (by assumption) hr fun q p2 hp2=>?_|refine ix_strs [⟨#[114,49]⟩,⟨#[97,110,121]⟩,⟨#[82]⟩,⟨#[122,122]⟩] 4 rfl rfl (by omega) fun s hs=>?_|refine ix_strs [⟨#[97,110,121]⟩,⟨#[105,112,115]⟩,⟨#[90]⟩,⟨#[97,32,98]⟩] 4 rfl rfl (by omega) fun s hs=>?_|refine ix_strs [⟨#[]⟩,⟨#[97,110,121]⟩,⟨#[100,109,122]⟩] 3 rfl rfl (by omega) fun s hs=>?_|refine ix_ints [0,1001,-1,7] 4 rfl rfl (by omega) fun c hc=>?_|refine ix_ints [3,-1,2] 3 rfl rfl (by omega) fun c hc=>?_|refine ix_ints [4097,-1,7] 3 rfl rfl (by omega) fun c hc=>?_|refine In.intro 0 rfl (by omega) ?_|refine In.intro (t.edges.length-1) (by omega) (by omega) ?_|refine ix_any (by omega) fun r hx=>?_|refine ix_set (by rw[List.length_map];omega) ?_|refine Sb.intro 1 t.devs.length rfl rfl (by omega) (by omega) ?_|refine Sb.intro 1 t.edges.length rfl rfl (by omega) (by omega) ?_|refine sl_map (by omega) ?_)|refine zG ?_|apply zA|(apply zI;intro h)|exact zT));(all_goals conv=>whnf)
 all_goals first
  |exact hK' t.devs t.links t.edges t.pools _ _ (Nat.le_refl _) (by assumption)
  |(refine hE _ _ _ _ _ _ ?_ ?_ ?_ ?_ (by first|(refine .inl ?_;simp;done)|(refine .inr ⟨_,by assumption,?_⟩;rw[List.drop_zero,List.take_length])) (by assumption)<;>(repeat' first|exact all_map _|refine all_app ?_ ?_|refine all_set ?_ ?_|refine all_drop ?_|refine all_take ?_)<;>
    first|exact eD _ _ _ _ _|exact eL _ _ _|exact eE _ _ _ _ _|exact eP _)
noncomputable abbrev smBox(x:Sm):Vm.Obj:=.box (celSm x)
def sm0:Sm:=⟨false,⟨#[]⟩,⟨#[]⟩,⟨#[]⟩,false,⟨#[]⟩,⟨#[]⟩,⟨#[]⟩,⟨#[]⟩,0⟩
theorem sm_ex{raw:List Int}{L:Sm×Nat->Prop}(a:Bool)(b c d:ByteArray)(e:Bool)(f g h i:ByteArray)(j:Int)(q:Nat)(hL:L (⟨a,b,c,d,e,f,g,h,i,j⟩,q))(hR:q<=raw.length):∃g:Sm×Nat,g.2<=raw.length/\L g:=⟨_,hR,hL⟩
theorem cnStm(raw:List Int)(pos:Nat)(t:Tp)(htd:t.devs.length<=100)(gs ss:List Df)(ws:List Wn)(sts:List Sm)(hg:gs.length<=1000)(hs:ss.length<=1000)(hw:ws.length<=1000)(hp:pos<=raw.length)(hr:raw.length<=9223372036854775807){K:KT}
  (hK:∀(s:Sm) (pos':Nat),pos'<=raw.length->K (encSm s) [tapeO raw pos',.arr 10 (sts.map encSm)]):
  ACall Tryz.prog 82 [.op 0 0,encT t,.agg [.lst (gs.map encDf),.lst (ss.map encDf),.lst (ws.map encWn),.os 1 10 0 sts.length,.nils,.nils]] [tapeO raw pos,.arr 10 (sts.map encSm)] K:=by
 refine ofnStm rfl rfl ?_
 (repeat' ((conv=>whnf);first|(with_reducible first|refine nNext raw _ _ (by omega) (by assumption) hr fun m1 p1 hm1 hp1=>?_|refine cnPick raw _ gs hg (by assumption) hr fun s p2 hp2=>?_|refine cnPick raw _ ss hs (by assumption) hr fun s p2 hp2=>?_)|refine zG ?_|apply zA|(apply zI;intro h)|exact zT));(all_goals conv=>whnf)
 all_goals
  refine Jn.intro (Sm×Nat) (fun g=>⟨6,[(0,tapeO raw g.2),(1,.arr 10 (sts.map encSm)),(2,boxT t),(3,.box [.lst (gs.map encDf),.lst (ss.map encDf),.lst (ws.map encWn),.os 1 10 0 sts.length,.nils,.nils]),(4,smBox sm0),(5,smBox g.1)],[(0,.op 0 0),(4,.op 2 0),(5,.op 3 0),(6,.op 4 0),(7,.op 5 0)]⟩) (fun g=>g.2<=raw.length) ?_ ?_
  ·(repeat' ((conv=>whnf);first|(with_reducible first|refine nNext raw _ _ (by omega) (by assumption) hr fun m1 p1 hm1 hp1=>?_|refine cnPick raw _ gs hg (by assumption) hr fun s p2 hp2=>?_|refine cnPick raw _ ss hs (by assumption) hr fun s p2 hp2=>?_)|refine zG ?_|apply zA|(apply zI;intro h)|exact zT));(all_goals conv=>whnf)
   all_goals
    apply sm_ex
    ·(exact leA)
    ·with_reducible assumption
  rintro⟨x,q⟩ hq
  simp only at hq⊢
  (repeat' ((conv=>whnf);first|refine zG ?_|apply zA|(apply zI;intro h)|exact zT));(all_goals conv=>whnf)
  refine Jn.intro (Sm×Nat) (fun g=>⟨6,[(0,tapeO raw g.2),(1,.arr 10 (sts.map encSm)),(2,boxT t),(3,.box [.lst (gs.map encDf),.lst (ss.map encDf),.lst (ws.map encWn),.os 1 10 0 sts.length,.nils,.nils]),(4,smBox sm0),(5,smBox g.1)],[(0,.op 0 0),(4,.op 2 0),(5,.op 3 0),(6,.op 4 0),(7,.op 5 0)]⟩) (fun g=>g.2<=raw.length) ?_ ?_
  ·(repeat' ((conv=>whnf);first|(with_reducible first|refine nNext raw _ _ (by(try simp only[List.length_map]);omega) (by with_reducible assumption) hr fun m1 p1 hm1 hp1=>?_|refine in_map (by simp only[List.length_map]at*;omega) ?_|refine ix_map_any (by simp only[List.length_map]at*;omega) fun r hr=>?_)|refine zG ?_|apply zA|(apply zI;intro h)|exact zT));(all_goals conv=>whnf)
   all_goals first
    |(refine⟨(⟨x.permit,x.frm,x.to,x.svc,x.exc,x.exF,x.exT,r.cls,x.dur,x.pri⟩,p1),(by with_reducible assumption),?_⟩
      (exact leA)
      done)
    |(refine⟨(x,p1),(by with_reducible assumption),?_⟩
      (exact leA)
      done)
    |(refine⟨(x,q),(by with_reducible assumption),?_⟩
      (exact leA)
      done)
  clear hq q x
  rintro⟨x,q⟩ hq
  simp only at hq⊢
  (repeat' ((conv=>whnf);first|refine zG ?_|apply zA|(apply zI;intro h)|exact zT));(all_goals conv=>whnf)
  refine Jn.intro (Sm×Nat) (fun g=>⟨6,[(0,tapeO raw g.2),(1,.arr 10 (sts.map encSm)),(2,boxT t),(3,.box [.lst (gs.map encDf),.lst (ss.map encDf),.lst (ws.map encWn),.os 1 10 0 sts.length,.nils,.nils]),(4,smBox sm0),(5,smBox g.1)],[(0,.op 0 0),(4,.op 2 0),(5,.op 3 0),(6,.op 4 0),(7,.op 5 0)]⟩) (fun g=>g.2<=raw.length) ?_ ?_
  ·(repeat' ((conv=>whnf);first|(with_reducible first|refine nNext raw _ _ (by(try simp only[List.length_map]);omega) (by with_reducible assumption) hr fun m1 p1 hm1 hp1=>?_|refine in_map (by simp only[List.length_map]at*;omega) ?_|refine ix_map_any (by simp only[List.length_map]at*;omega) fun r hr=>?_)|refine zG ?_|apply zA|(apply zI;intro h)|exact zT));(all_goals conv=>whnf)
   all_goals first
    |(refine⟨(⟨x.permit,x.frm,x.to,x.svc,x.exc,x.exF,x.exT,x.cls,r.name,x.pri⟩,p1),(by with_reducible assumption),?_⟩
      (exact leA)
      done)
    |(refine⟨(x,p1),(by with_reducible assumption),?_⟩
      (exact leA)
      done)
    |(refine⟨(x,q),(by with_reducible assumption),?_⟩
      (exact leA)
      done)
  clear hq q x
  rintro⟨x,q⟩ hq
  simp only at hq⊢
  (repeat' ((conv=>whnf);first|(with_reducible first|refine nNext raw _ _ (by omega) (by with_reducible assumption) hr fun m1 p1 hm1 hp1=>?_|refine in_nat (by omega) ?_|refine ix_ints [0,0,1,5,1000] 5 rfl rfl (by omega) fun c hc=>?_)|refine zG ?_|apply zA|(apply zI;intro h)|exact zT));(all_goals conv=>whnf)
  exact hK ⟨x.permit,x.frm,x.to,x.svc,x.exc,x.exF,x.exT,x.cls,x.dur,c⟩ _ (by with_reducible assumption)
end Go.Proofs.YtokmdghjgegclaaGreatDoor
