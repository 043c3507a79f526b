/- Placement in plain Lean: what is placed are the pairs of the policy; it is valid and fits. -/
import Derived.Test.YtahhamfngafmcaaGreatDoorProg
import Derived.Test.YtahhamfngafmcaaGreatDoorM18
set_option linter.unusedVariables false
set_option linter.unusedSimpArgs false
set_option maxRecDepth 100000
set_option maxHeartbeats 4000000
namespace Go.Proofs.YtahhamfngafmcaaGreatDoor
open Go Go.Vm
/-! with no room -/
theorem mem_pairsB{es:List Ed}{w:Bx}(h:w∈pairsB es):∃(i j:Nat) (a b:Ed),i≠j/\es[i]? =some a/\es[j]? =some b/\w=whoB a.pf b.pf:=by
 rw[pairsB,pairsTo,List.mem_flatMap]at h
 obtain⟨⟨a,i⟩,ha,h⟩:=h
 rw[pairsAt,List.mem_map]at h
 obtain⟨⟨b,j⟩,hb,rfl⟩:=h
 obtain⟨hb,hij⟩:=List.mem_filter.1 hb
 rw[List.take_length]at ha hb
 have ha':=List.mem_zipIdx_iff_getElem?.1 ha
 have hb':=List.mem_zipIdx_iff_getElem?.1 hb
 exact⟨i,j,a,b,by simpa using hij,ha',hb',rfl⟩
def wu(p:Int):Int:=IntKind.u32.wrap p
theorem wu_b(p:Int):0<=wu p/\wu p<=4294967295:=by
 unfold wu;simp only[IntKind.wrap,IntKind.signed,IntKind.bits];simp;omega
def hdrX(y:It):Bx:=⟨fullB.r0,fullB.r1,⟨wu y.proto,wu y.proto,(wu_b _).1,(wu_b _).2,(wu_b _).1,(wu_b _).2⟩,fullB.r3,y.ports⟩
def rgsI(t:Tp)(i:Nt):List Rg:=(t.edges.map fun e=>e.pf.rg)++i.grps.flatMap fun d=>d.items.map fun y=>y.pf.rg
def boxesI(i:Nt):List Bx:=initS++i.svcs.flatMap fun d=>d.items.map hdrX
def AEq(t:Tp)(i:Nt)(v v':Int):Prop:=∀r,r∈rgsI t i->inR r v=inR r v'
structure PEq (t:Tp) (i:Nt) (q q':Nat->Int):Prop where
 s:AEq t i (q 0) (q' 0)
 d:AEq t i (q 1) (q' 1)
 v:∀b,b∈boxesI i->inK q 5 b=inK q' 5 b
def RespR(t:Tp)(i:Nt)(rs:List Rg):Prop:=∀v v',AEq t i v v'->has rs v=has rs v'
def Resp(t:Tp)(i:Nt)(s:List Bx):Prop:=∀q q',InP q->InP q'->PEq t i q q'->memK q 5 s=memK q' 5 s
section
variable {t:Tp} {i:Nt}
theorem RespR.nil:RespR t i []:=fun _ _ _=>rfl
theorem RespR.of{rs:List Rg}(h:∀r,r∈rs->r∈rgsI t i):RespR t i rs:=fun v v' e=>by
 rw[Bool.eq_iff_iff,has_iff,has_iff]
 constructor
 ·rintro⟨r,hr,h1,h2⟩
  have:=e r (h r hr)
  simp only[inR]at this
  rw[decide_eq_true h1,decide_eq_true h2]at this
  have h3:=this.symm
  simp only[Bool.and_self,Bool.and_eq_true,decide_eq_true_eq]at h3
  exact⟨r,hr,h3⟩
 ·rintro⟨r,hr,h1,h2⟩
  have:=e r (h r hr)
  simp only[inR]at this
  rw[decide_eq_true h1,decide_eq_true h2]at this
  simp only[Bool.and_self,Bool.and_eq_true,decide_eq_true_eq]at this
  exact⟨r,hr,this⟩
theorem RespR.has{rs out:List Rg}(h:RespR t i rs)(ho:∀v,has out v=has rs v):RespR t i out:=fun v v' e=>by rw[ho,ho,h v v' e]
theorem Resp.nil:Resp t i []:=fun _ _ _ _ _=>rfl
theorem Resp.any{l:List Bx}(h:∀b,b∈l->∀q q',InP q->InP q'->PEq t i q q'->inK q 5 b=inK q' 5 b):Resp t i l:=fun q q' hq hq' e=>by
 rw[Bool.eq_iff_iff,memK_iff,memK_iff]
 constructor
 ·rintro⟨b,hb,h1⟩;exact⟨b,hb,by rw[<-h b hb q q' hq hq' e];exact h1⟩
 ·rintro⟨b,hb,h1⟩;exact⟨b,hb,by rw[h b hb q q' hq hq' e];exact h1⟩
theorem makeGo_eq{p:Nat->Int}(hp:InP p):∀(l s:List Bx),(makeGo s l).2=0->memK p 5 (makeGo s l).1=(memK p 5 s||memK p 5 (vldB l))
 |[],s,_=>by rw[makeGo];simp[vldB,memK_nil]
 |b::l,s,h=>by
  rw[makeGo]at h⊢
  rw[vldB_cons]
  split at h
  ·rename_i ho
   rw[if_pos ho,if_pos ho]
   split at h
   ·cases h
   ·rename_i hl
    rw[if_neg hl,makeGo_eq hp l _ h,addO,cano_mem orB hp 5 _ _ (Nat.le_refl _)]
    have e:memK p 5 [b]=inK p 5 b:=by simp[memK]
    have e2:memK p 5 (b::vldB l)=(inK p 5 b||memK p 5 (vldB l)):=rfl
    rw[e,e2,orB,Bool.or_assoc]
  ·rename_i ho
   rw[if_neg ho,if_neg ho]
   exact makeGo_eq hp l s h
theorem makeGo_err:∀(l s:List Bx),(makeGo s l).2≠0->(makeGo s l).1=[]
 |[],s,h=>absurd rfl h
 |b::l,s,h=>by
  rw[makeGo]at h⊢
  split at h
  ·rename_i ho
   rw[if_pos ho]
   split at h
   ·rename_i hl;rw[if_pos hl]
   ·rename_i hl;rw[if_neg hl];exact makeGo_err l _ h
  ·rename_i ho
   rw[if_neg ho];exact makeGo_err l s h
theorem Resp.make{l:List Bx}(h:Resp t i (vldB l)):Resp t i (makeP l).1:=fun q q' hq hq' e=>by
 by_cases he:(makeP l).2=0
 ·rw[makeP,makeGo_eq hq l [] he,makeGo_eq hq' l [] he,memK_nil,memK_nil,h q q' hq hq' e]
 ·rw[makeP,makeGo_err l [] he,memK_nil,memK_nil]
theorem Resp.giv{l:List Bx}(h:Resp t i (vldB l)):Resp t i (givP l).1:=by
 unfold givP
 split
 ·rename_i hs
  rw[vld_all (okL_set hs)]at h;exact h
 ·exact h.make
theorem Resp.giv_set{l:List Bx}(hs:setB l=true)(h:Resp t i l):Resp t i (givP l).1:=by
 rw[givP,if_pos hs];exact h
theorem Resp.combG{op:Bool->Bool->Bool}{a b:List Bx}(ha:Resp t i (givP a).1)(hb:Resp t i (givP b).1):Resp t i (combP op a b).1:=by
 unfold combP
 split
 ·exact Resp.nil
 ·split
  ·exact Resp.nil
  ·simp only[limP]
   split
   ·exact Resp.nil
   ·intro q q' hq hq' e
    rw[cano_mem op hq 5 _ _ (Nat.le_refl _),cano_mem op hq' 5 _ _ (Nat.le_refl _),ha q q' hq hq' e,hb q q' hq hq' e]
theorem Resp.vld{l:List Bx}(h:∀b,b∈l->∀q q',InP q->InP q'->PEq t i q q'->inK q 5 b=inK q' 5 b):Resp t i (vldB l):=Resp.any fun b hb=>h b (List.mem_filter.1 hb).1
theorem Resp.init:Resp t i initS:=Resp.any fun b hb q q' _ _ e=>e.v b (List.mem_append_left _ hb)
theorem Resp.hdr{y:It}(h:∃d,d∈i.svcs/\y∈d.items):Resp t i (combP anB initS [hdrX y]).1:=by
 obtain⟨d,hd,hy⟩:=h
 refine Resp.combG (Resp.init.giv_set init_set) (Resp.giv (Resp.vld fun b hb q q' _ _ e=>?_))
 rw[List.mem_singleton.1 hb]
 exact e.v _ (List.mem_append_right _ (List.mem_flatMap.2 ⟨d,hd,List.mem_map.2 ⟨y,hy,rfl⟩⟩))
def btwX(r s:Rg):Bx:=⟨r,s,fullB.r2,fullB.r3,fullB.r4⟩
theorem inK_btw{r s:Rg}{q:Nat->Int}(hq:InP q):inK q 5 (btwX r s)=(inR r (q 0)&&inR s (q 1)):=by
 have h2:=hq 2;have h3:=hq 3;have h4:=hq 4
 have e2:fullB.r2.lo=0/\fullB.r2.hi=255:=by decide
 have e3:fullB.r3.lo=0/\fullB.r3.hi=65535:=by decide
 have e4:fullB.r4.lo=0/\fullB.r4.hi=65535:=by decide
 have t2:topF 2=255:=rfl
 have t3:topF 3=65535:=rfl
 have t4:topF 4=65535:=rfl
 simp only[inK,inR,Bx.get,btwX,Nat.sub_self,Nat.reduceSub,Bool.and_true]
 rw[show decide (fullB.r2.lo<=q 2)=true from decide_eq_true (by omega),show decide (q 2<=fullB.r2.hi)=true from decide_eq_true (by omega),show decide (fullB.r3.lo<=q 3)=true from decide_eq_true (by omega),show decide (q 3<=fullB.r3.hi)=true from decide_eq_true (by omega),show decide (fullB.r4.lo<=q 4)=true from decide_eq_true (by omega),show decide (q 4<=fullB.r4.hi)=true from decide_eq_true (by omega)]
 simp
def btwB(a b:List Rg):List Bx:=a.flatMap fun r=>b.map fun s=>btwX r s
theorem Resp.real:Resp t i (realP t).1:=by
 unfold realP
 split
 ·exact Resp.nil
 ·refine Resp.combG (Resp.giv_set (setB_makeP _) (Resp.make (Resp.vld fun b hb q q' hq hq' e=>?_))) (Resp.init.giv_set init_set)
  obtain⟨k,j,x,y,_,hx,hy,rfl⟩:=mem_pairsB hb
  have e1:=e.s x.pf.rg (List.mem_append_left _ (List.mem_map.2 ⟨x,List.mem_of_getElem? hx,rfl⟩))
  have e2:=e.d y.pf.rg (List.mem_append_left _ (List.mem_map.2 ⟨y,List.mem_of_getElem? hy,rfl⟩))
  have hw:whoB x.pf y.pf=btwX x.pf.rg y.pf.rg:=rfl
  rw[hw,inK_btw hq,inK_btw hq',e1,e2]
end
noncomputable abbrev vN(n:Nat):AV:=.v (.int .i64 (n:Int))
theorem wr_u32_eq{p:Int}{K:Int->Prop}(h:K (wu p)):Wr .u32 p K:=Wr.intro rfl h
theorem cwFol1(d:Df)(s:ByteArray){K:KT}(hK:K (.sb (sEq d.name s)) []):ACall Tryz.prog 189 [encDf d,.fp [.v (.string s)]] [] K:=by
 refine ofwFol1 rfl rfl ?_
 (repeat' ((conv=>whnf);first|refine zG ?_|apply zA|(apply zI;intro h)|exact zT));(all_goals conv=>whnf)
 exact hK
theorem cwIxD(l:List Df)(s:ByteArray)(hl:l.length<1000000){K:KT}(hK:K (.v (.int .i64 (firstIx (fun d=>sEq d.name s) l))) []):
  ACall Tryz.prog 179 [.lst (l.map encDf),.fn (.func 189) [] [.fp [.v (.string s)]]] [] K:=by
 refine ofwIxD rfl rfl ?_
 (repeat' ((conv=>whnf);first|refine zG ?_|apply zA|(apply zI;intro h)|exact zT));(all_goals conv=>whnf)
 refine Lp.intro Nat (fun k=>⟨0,[],[(0,.lst (l.map encDf)),(1,.fn (.func 189) [] [.fp [.v (.string s)]]),(7,.v (.int .i64 (l.map encDf).length)),(8,.v (.int .i64 k))]⟩) (fun k=>k<=l.length/\∀(i:Nat) y,i<k->l[i]? =some y->sEq y.name s=false) (fun k=>l.length-k) 0 ⟨Nat.zero_le _,fun i y hi=>absurd hi (Nat.not_lt_zero _)⟩ ?_ ?_
 ·(exact leA)
 intro k ⟨hk,hinv⟩
 rcases Nat.lt_or_ge k l.length with hkl|hkl
 ·obtain⟨r,hr⟩:=gex hkl
  (repeat' ((conv=>whnf);first|(with_reducible first|refine in_map hkl ?_|refine ix_map hr ?_|refine cwFol1 r s ?_)|refine zG ?_|apply zA|(apply zI;intro h)|exact zT));(all_goals conv=>whnf)
  ·rw[firstIx_at hr h hinv]at hK;exact hK
  ·refine⟨k+1,⟨by omega,before_succ hr h hinv⟩,by omega,?_⟩
   rw[Int.natCast_add,Int.natCast_one]
   (exact leA)
 ·(repeat' ((conv=>whnf);first|refine zG ?_|apply zA|(apply zI;intro h)|exact zT));(all_goals conv=>whnf)
  rw[firstIx_none (before_all hkl hinv)]at hK
  exact hK
def ixs(p:Ed->Bool)(l:List Ed)(k:Nat):List Nat:=(List.range k).filter fun i=>match l[i]? with
 |some e=>p e
 |none=>false
theorem ixs_succ(p:Ed->Bool){l:List Ed}{k:Nat}{e:Ed}(h:l[k]? =some e):ixs p l (k+1)=ixs p l k++if p e=true then [k]else []:=by
 rw[ixs,List.range_succ,List.filter_append,<-ixs]
 congr 1
 rw[List.filter_cons,List.filter_nil]
 simp only[h]
theorem ixs_len(p:Ed->Bool)(l:List Ed)(k:Nat):(ixs p l k).length<=k:=by
 have:=List.length_filter_le (fun i=>match l[i]? with
  |some e=>p e
  |none=>false) (List.range k)
 rw[List.length_range]at this
 exact this
theorem ixs_lt{p:Ed->Bool}{l:List Ed}{k n:Nat}(h:n∈ixs p l k):n<k/\∃e,l[n]? =some e/\p e=true:=by
 rw[ixs,List.mem_filter,List.mem_range]at h
 refine⟨h.1,?_⟩
 cases he:l[n]? with
 |none=>simp[he]at h
 |some e=>exact⟨e,rfl,by simpa[he]using h.2⟩
theorem cwZone1(e:Ed)(s:ByteArray){K:KT}(hK:K (.sb (sEq e.zone s)) []):ACall Tryz.prog 146 [encE e,.fp [.v (.string s)]] [] K:=by
 refine ofwZone1 rfl rfl ?_
 (repeat' ((conv=>whnf);first|refine zG ?_|apply zA|(apply zI;intro h)|exact zT));(all_goals conv=>whnf)
 exact hK
theorem cwIdx(t:Tp)(s:ByteArray)(hl:t.edges.length<1000){K:KT}(hK:K (.lst ((ixs (fun e=>sEq e.zone s) t.edges t.edges.length).map vN)) []):
  ACall Tryz.prog 145 [encT t,.fn (.func 146) [] [.fp [.v (.string s)]]] [] K:=by
 refine ofwIdx rfl rfl ?_
 (repeat' ((conv=>whnf);first|refine zG ?_|apply zA|(apply zI;intro h)|exact zT));(all_goals conv=>whnf)
 refine Lp.intro (Nat×List Nat) (fun g=>⟨2,[(1,.arr 1 (g.2.map vN))],[(1,.fn (.func 146) [] [.fp [.v (.string s)]]),(5,.os 1 1 0 g.2.length),(9,.lst (t.edges.map encE)),(10,.v (.int .i64 (t.edges.map encE).length)),(11,.v (.int .i64 g.1))]⟩)
  (fun g=>g.1<=t.edges.length/\g.2=ixs (fun e=>sEq e.zone s) t.edges g.1) (fun g=>t.edges.length-g.1) (0,[]) ⟨Nat.zero_le _,rfl⟩ ?_ ?_
 ·(exact leA)
 rintro⟨k,out⟩ ⟨hk,ho⟩
 simp only at hk ho⊢
 have hol:out.length<=k:=by rw[ho];exact ixs_len _ _ _
 rcases Nat.lt_or_ge k t.edges.length with hkl|hkl
 ·obtain⟨e,he⟩:=gex hkl
  have hs:=ixs_succ (fun e=>sEq e.zone s) he
  rw[<-ho]at hs
  (repeat' ((conv=>whnf);first|(with_reducible first|refine in_map hkl ?_|refine ix_map he ?_|refine cwZone1 e s ?_)|refine zG ?_|apply zA|(apply zI;intro h)|exact zT));(all_goals conv=>whnf)
  ·refine⟨(k+1,out++[k]),⟨hkl,by rw[hs,if_pos h]⟩,by simp only;omega,?_⟩
   simp only[List.map_append,List.length_append,List.map_cons,List.map_nil,List.length_cons,List.length_nil,Int.natCast_add,Int.natCast_one]
   (exact leA)
  ·refine⟨(k+1,out),⟨hkl,by rw[hs,if_neg (by simp[h]),List.append_nil]⟩,by simp only;omega,?_⟩
   simp only[Int.natCast_add,Int.natCast_one]
   (exact leA)
 ·obtain rfl:k=t.edges.length:=by omega
  rw[<-ho]at hK
  (repeat' ((conv=>whnf);first|(with_reducible refine sl_full (List.length_map ..) ?_)|refine zG ?_|apply zA|(apply zI;intro h)|exact zT));(all_goals conv=>whnf)
  exact hK
theorem cwZone(t:Tp)(s:ByteArray)(hl:t.edges.length<1000){K:KT}(hK:K (.lst ((ixs (fun e=>sEq e.zone s) t.edges t.edges.length).map vN)) []):ACall Tryz.prog 88 [encT t,.v (.string s)] [] K:=by
 refine ofwZone rfl rfl ?_
 (repeat' ((conv=>whnf);first|(with_reducible refine cwIdx t s hl ?_)|refine zG ?_|apply zA|(apply zI;intro h)|exact zT));(all_goals conv=>whnf)
 exact hK
abbrev outO(i n:Nat):Vm.Obj:=.box [.os i 2 0 n]
noncomputable abbrev arrO(rs:List Rg):Vm.Obj:=.arr 2 (rs.map encR)
theorem cwAdd(p:Pf)(rs:List Rg)(hl:rs.length<1000000000000){K:KT}(hK:K (.tup []) [outO 2 (rs++[p.rg]).length,.box [],arrO (rs++[p.rg])]):
  ACall Tryz.prog 83 [encP p,.op 0 0] [outO 1 rs.length,arrO rs] K:=by
 refine ofwG1 rfl rfl ?_
 (repeat' ((conv=>whnf);first|(with_reducible refine cpOf p ?_)|refine zG ?_|apply zA|(apply zI;intro h)|exact zT));(all_goals conv=>whnf)
 simp only[outO,arrO,List.length_append,List.map_append]at hK
 exact hK
def rgAt(t:Tp)(i:Nat):Rg:=match t.edges[i]? with
 |some e=>e.pf.rg
 |none=>⟨0,0,by decide,by decide,by decide,by decide⟩
def visG(t:Tp)(x:It)(rs:List Rg):Int×List Rg:=
 if x.kind=2 then(0,rs++[x.pf.rg])else if ixs (fun e=>sEq e.zone x.name) t.edges t.edges.length=[]then(5,rs)else(0,rs++(ixs (fun e=>sEq e.zone x.name) t.edges t.edges.length).map (rgAt t))
noncomputable abbrev adO(i:Nat):Vm.Obj:=.box [.fn (.func 83) [] [.op i 0]]
theorem cwVis(t:Tp)(x:It)(rs:List Rg)(hl:t.edges.length<1000)(hr:rs.length<100000000000){K:KT}(hK:K (.v (.int .i64 (visG t x rs).1)) [adO 2,boxT t,outO 4 (visG t x rs).2.length,.box [],arrO (visG t x rs).2]):
  ACall Tryz.prog 87 [encIt x,.op 0 0,.op 1 0] [adO 2,boxT t,outO 3 rs.length,arrO rs] K:=by
 refine ofwG2 rfl rfl ?_
 (repeat' ((conv=>whnf);first|(with_reducible first|refine cwAdd x.pf rs (by omega) ?_|refine cwZone t x.name hl ?_)|refine zG ?_|apply zA|(apply zI;intro h)|exact zT));(all_goals conv=>whnf)
 ·rw[visG,if_pos h]at hK
  exact hK
 ·have h0:ixs (fun e=>sEq e.zone x.name) t.edges t.edges.length=[]:=List.length_eq_zero_iff.1 (by rw[List.length_map]at h;omega)
  rw[visG,if_neg (by assumption),if_pos h0]at hK
  exact hK
 have hne:ixs (fun e=>sEq e.zone x.name) t.edges t.edges.length≠[]:=fun e=>h (by rw[e];rfl)
 rw[visG,if_neg (by assumption),if_neg hne]at hK
 have hlt:=fun n hn=>@ixs_lt (fun e=>sEq e.zone x.name) t.edges t.edges.length n hn
 have hll:=ixs_len (fun e=>sEq e.zone x.name) t.edges t.edges.length
 generalize ixs (fun e=>sEq e.zone x.name) t.edges t.edges.length=L at*
 refine Lp.intro (Nat×List Rg) (fun g=>⟨5,[(0,adO 2),(1,boxT t),(2,outO 4 g.2.length),(4,arrO g.2)],[(1,.op 0 0),(2,.op 1 0),(22,.lst (L.map vN)),(23,.v (.int .i64 (L.map vN).length)),(24,.v (.int .i64 g.1))]⟩)
  (fun g=>g.1<=L.length/\g.2=rs++(L.take g.1).map (rgAt t)) (fun g=>L.length-g.1) (0,rs) ⟨Nat.zero_le _,by simp⟩ ?_ ?_
 ·(exact leA)
 rintro⟨k,out⟩ ⟨hk,ho⟩
 simp only at hk ho⊢
 have hol:out.length=rs.length+k:=by rw[ho,List.length_append,List.length_map,List.length_take];omega
 rcases Nat.lt_or_ge k L.length with hkl|hkl
 ·obtain⟨n,hn⟩:=gex hkl
  obtain⟨hnl,e,he,_⟩:=hlt n (List.mem_of_getElem? hn)
  have hrg:rgAt t n=e.pf.rg:=by rw[rgAt,he]
  (repeat' ((conv=>whnf);first|(with_reducible first|refine in_map hkl ?_|refine ix_map hn ?_|refine in_map hnl ?_|refine ix_map he ?_|refine cwAdd e.pf out (by omega) ?_)|refine zG ?_|apply zA|(apply zI;intro h)|exact zT));(all_goals conv=>whnf)
  refine⟨(k+1,out++[e.pf.rg]),⟨hkl,?_⟩,by simp only;omega,?_⟩
  ·simp only
   rw[ho,List.take_add_one,hn,List.map_append,List.append_assoc]
   simp[hrg]
  ·simp only[Int.natCast_add,Int.natCast_one]
   (exact leA)
 ·have hke:k=L.length:=by omega
  rw[hke,List.take_length]at ho
  rw[<-ho]at hK
  (repeat' ((conv=>whnf);first|refine zG ?_|apply zA|(apply zI;intro h)|exact zT));(all_goals conv=>whnf)
  exact hK
noncomputable abbrev foO(l:List Df):Vm.Obj:=.box [.lst (l.map encDf),.mp 1,.mp 2,.fn (.func 87) [] [.op 3 0,.op 4 0]]
theorem visG_sz{t:Tp}(ht:t.edges.length<1000)(x:It)(rs:List Rg)(h:(visG t x rs).1=0):(visG t x rs).2.length<=rs.length+1000:=by
 unfold visG at h⊢
 have hll:=ixs_len (fun e=>sEq e.zone x.name) t.edges t.edges.length
 split
 ·rw[List.length_append];simp
 ·split
  ·simp
  ·rw[List.length_append,List.length_map];omega
theorem cwFol(t:Tp)(ht:t.edges.length<1000)(l:List Df)(hl:l.length<=999)(hit:∀d,d∈l->d.items.length<=999):∀(k:Nat) (p:List Nat) (nm:ByteArray) (d:List Nat) (rs:List Rg),Fine l p d->p.length+k=l.length+1->rs.length<=1000000*(d.length+p.length)->∀{K:KT},
  K (.v (.int .i64 (fol (visG t) l k p nm d rs).1)) [foO l,.map (nameM l p),.map (nameM l (fol (visG t) l k p nm d rs).2.1),adO 5,boxT t,outO 7 (fol (visG t) l k p nm d rs).2.2.length,.box [],arrO (fol (visG t) l k p nm d rs).2.2]->
  ACall Tryz.prog 144 [.op 0 0,.v (.string nm)] [foO l,.map (nameM l p),.map (nameM l d),adO 5,boxT t,outO 6 rs.length,arrO rs] K
 |0,p,nm,d,rs,hf,hk,hrs,K,hK=>by
  have:=hf.small
  omega
 |k+1,p,nm,d,rs,hf,hk,hrs,K,hK=>by
  refine ofwFol rfl rfl ?_
  have hsm:=hf.small
  cases hn:findD l nm with
  |none=>
   have hix:∀{K:KT},K (.v (.int .i64 (-1))) []->ACall Tryz.prog 179 [.lst (l.map encDf),.fn (.func 189) [] [.fp [.v (.string nm)]]] [] K:=fun {K} h=>
    cwIxD l nm (by omega) (by rw[firstIx_find,hn];exact h)
   simp only[fol,hn]at hK
   (repeat' ((conv=>whnf);first|(with_reducible refine hix ?_)|refine zG ?_|apply zA|(apply zI;intro h)|exact zT));(all_goals conv=>whnf)
   exact hK
  |some n=>
   obtain⟨df,hdf,hname,hnl⟩:=findD_some hn
   have hix:∀{K:KT},K (.v (.int .i64 n)) []->ACall Tryz.prog 179 [.lst (l.map encDf),.fn (.func 189) [] [.fp [.v (.string nm)]]] [] K:=fun {K} h=>
    cwIxD l nm (by omega) (by rw[firstIx_find,hn];exact h)
   by_cases hp:n∈p
   ·simp only[fol,hn,if_pos hp]at hK
    (repeat' ((conv=>whnf);first|(with_reducible first|refine hix ?_|refine mg_some (nameM_in hn hp) ?_)|refine zG ?_|apply zA|(apply zI;intro h)|exact zT));(all_goals conv=>whnf)
    exact hK
   by_cases hd:n∈d
   ·simp only[fol,hn,if_neg hp,if_pos hd]at hK
    (repeat' ((conv=>whnf);first|(with_reducible first|refine hix ?_|refine mg_none (nameM_out hf.pf hn hp) ?_|refine mg_some (nameM_in hn hd) ?_)|refine zG ?_|apply zA|(apply zI;intro h)|exact zT));(all_goals conv=>whnf)
    exact hK
   simp only[fol,hn,if_neg hp,if_neg hd,hdf,Option.map_some,Option.getD_some]at hK
   (repeat' ((conv=>whnf);first|(with_reducible first|refine hix ?_|refine mg_none (nameM_out hf.pf hn hp) ?_|refine mg_none (nameM_out hf.df hn hd) ?_|refine Mu.intro (updM_name hn) ?_|refine in_map hnl ?_|refine ix_map hdf ?_)|refine zG ?_|apply zA|(apply zI;intro h)|exact zT));(all_goals conv=>whnf)
   have hpush:=hf.push hn hp hd
   have hfed:=fun(q:Nat) nm d s h h0=>fol_fed (visG t) List.length (visG_sz ht) l hit q (p++[n]) nm d s h h0
   have hlen:=hit df (List.mem_of_getElem? hdf)
   refine Lp.intro (Nat×List Nat×List Rg) (fun g=>⟨9,[(0,foO l),(1,.map (nameM l (p++[n]))),(2,.map (nameM l g.2.1)),(3,adO 5),(4,boxT t),(5,outO 7 g.2.2.length),(7,arrO g.2.2),(8,.box [.v (.string nm)])],[(0,.op 0 0),(3,.op 8 0),(49,.lst (df.items.map encIt)),(50,.v (.int .i64 (df.items.map encIt).length)),(51,.v (.int .i64 g.1)),(DS,.dfr 1 nm)]⟩)
    (fun g=>g.1<=df.items.length/\Fine l (p++[n]) g.2.1/\folI (visG t) (fol (visG t) l k (p++[n])) df.items d rs=folI (visG t) (fol (visG t) l k (p++[n])) (df.items.drop g.1) g.2.1 g.2.2/\d.length<=g.2.1.length/\g.2.2.length+1000000*d.length<=rs.length+1000000*g.2.1.length+1000*g.1)
    (fun g=>df.items.length-g.1) (0,d,rs) ⟨Nat.zero_le _,hpush,by rw[List.drop_zero],Nat.le_refl _,by simp only;omega⟩ ?_ ?_
   ·(exact leA)
   rintro⟨i,d1,rs1⟩ ⟨hi,hf1,heq,hd1,hsz⟩
   simp only at hi hf1 heq hd1 hsz⊢
   rcases Nat.lt_or_ge i df.items.length with hil|hil
   ·obtain⟨x,hx⟩:=gex hil
    have hdr:df.items.drop i=x::df.items.drop (i+1):=by
     rw[List.drop_eq_getElem_cons hil]
     congr 1
     rw[List.getElem?_eq_getElem hil]at hx;cases hx;rfl
    rw[hdr,folI_cons]at heq
    have hsm1:=hf1.small
    rw[List.length_append,List.length_singleton]at hsm1
    by_cases hk3:x.kind=3
    ·simp only[if_pos hk3]at heq
     have hc:=fun {K} h=>@cwFol t ht l hl hit k (p++[n]) x.name d1 rs1 hf1 (by rw[List.length_append];simp only[List.length_singleton];omega) (by rw[List.length_append];simp only[List.length_singleton];omega) K h
     have hfq:=hfed k x.name d1 rs1 hf1
     generalize fol (visG t) l k (p++[n]) x.name d1 rs1=q at*
     obtain⟨qe,qd,qs⟩:=q
     simp only at heq hc hfq
     (repeat' ((conv=>whnf);first|(with_reducible first|refine in_map hil ?_|refine ix_map hx ?_|refine hc ?_|refine Mu.intro (delM_name hf.pf hn hp) ?_)|refine zG ?_|apply zA|(apply zI;intro h)|exact zT));(all_goals conv=>whnf)
     all_goals first
      |(have hne:¬qe=0:=by first|assumption|(intro e;simp_all;done)
        rw[heq,if_neg hne]at hK
        simp only[if_neg hne]at hK
        exact hK)
      |(have h0:qe=0:=by first|assumption|(simp_all;done)
        have hfq:=hfq h0
        refine⟨(i+1,qd,qs),⟨hil,hfq.fine,by rw[heq,if_pos h0],by have:=hfq.le;simp only;omega,by have:=hfq.size;simp only;omega⟩,by simp only;omega,?_⟩
        simp only[Int.natCast_add,Int.natCast_one]
        (exact leA)
        done)
      |trace_state
    ·simp only[if_neg hk3]at heq
     have hc:=fun {K} h=>@cwVis t x rs1 ht (by omega) K h
     have hvz:=visG_sz ht x rs1
     generalize visG t x rs1=q at*
     obtain⟨qe,qs⟩:=q
     simp only at heq hc hvz
     (repeat' ((conv=>whnf);first|(with_reducible first|refine in_map hil ?_|refine ix_map hx ?_|refine hc ?_|refine Mu.intro (delM_name hf.pf hn hp) ?_)|refine zG ?_|apply zA|(apply zI;intro h)|exact zT));(all_goals conv=>whnf)
     all_goals first
      |(have hne:¬qe=0:=by first|assumption|(intro e;simp_all;done)
        rw[heq,if_neg hne]at hK
        simp only[if_neg hne]at hK
        exact hK)
      |(have h0:qe=0:=by first|assumption|(simp_all;done)
        have hvz:=hvz h0
        refine⟨(i+1,d1,qs),⟨hil,hf1,by rw[heq,if_pos h0],by skip;simp only;omega,by skip;simp only;omega⟩,by simp only;omega,?_⟩
        simp only[Int.natCast_add,Int.natCast_one]
        (exact leA)
        done)
      |trace_state
   ·have hie:i=df.items.length:=by omega
    rw[hie,List.drop_length,folI_nil]at heq
    rw[heq]at hK
    simp only[if_true]at hK
    (repeat' ((conv=>whnf);first|(with_reducible first|refine Mu.intro (updM_name hn) ?_|refine Mu.intro (delM_name hf.pf hn hp) ?_)|refine zG ?_|apply zA|(apply zI;intro h)|exact zT));(all_goals conv=>whnf)
    exact hK
end Go.Proofs.YtahhamfngafmcaaGreatDoor
