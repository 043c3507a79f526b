/- Packet sets: what two lists of apart boxes have in common is small. -/
import Derived.Test.YtbdikofefjljoaaGreatDoorProg
import Derived.Test.YtbdikofefjljoaaGreatDoorJ17
set_option linter.unusedVariables false
set_option linter.unusedSimpArgs false
set_option maxRecDepth 100000
set_option maxHeartbeats 4000000
namespace Go.Proofs.YtbdikofefjljoaaGreatDoor
open Go Go.Vm
theorem cnt3_le{k:Nat}{a b:List Bx}{st:List Int}(hs:st.Pairwise (· < ·))(hf:∀e,e∈st->FromB (4-k) a b e)(ha:Cn (k+1) a)(hb:Cn (k+1) b){x y:Bx}(hx:x∈a)(hy:y∈b):
  ((st.filter (inR (x.get (4-k)))).filter (inR (y.get (4-k)))).length<=1:=by
 have hsub:=nodup_sub (List.Nodup.sublist List.filter_sublist (filter_nodup hs (inR (x.get (4-k))))) (l:=(st.filter (inR (x.get (4-k)))).filter (inR (y.get (4-k)))) (m:=[max (x.get (4-k)).lo (y.get (4-k)).lo]) fun e he=>by
  obtain⟨h1,h3⟩:=bX.1 he
  obtain⟨h1,h2⟩:=bX.1 h1
  rw[inR,aF,aI,aI]at h2 h3
  have hx2:=ha.2.1 x hx
  have hy2:=hb.2.1 y hy
  have hor:e=(x.get (4-k)).lo\/e=(y.get (4-k)).lo:=by
   rcases hf e h1 with h|h|h
   ·have:=(x.get (4-k)).l0
    left;omega
   ·rcases cut_in (d:=[]) ha hx (.inr (.inl h)) h2.1 h2.2 with h|⟨z,hz,_⟩
    ·left;exact h
    ·simp at hz
   ·rcases cut_in (d:=[]) hb hy (.inr (.inl h)) h3.1 h3.2 with h|⟨z,hz,_⟩
    ·right;exact h
    ·simp at hz
  have e1:e=max (x.get (4-k)).lo (y.get (4-k)).lo:=by omega
  rw[e1];simp
 simpa using hsub
theorem boundA:∀(k:Nat) (a b:List Bx),k<=5->Cn k a->Cn k b->(cano anB k a b).length<=a.length*b.length
 |0,a,b,_,_,_=>by
  rw[cano]
  split
  ·rename_i h
   simp only[anB,aF,dI,List.isEmpty_eq_false_iff]at h
   have h1:=dC.2 h.1
   have h2:=dC.2 h.2
   exact Nat.mul_pos h1 h2
  ·exact aL _
 |k+1,a,b,hk,ha,hb=>by
  rw[cano_succ,flatG_len]
  refine bO (groups_le _ _ _) ?_
  have hs:=(starts_inv (rngs (4-k) a b) (topF_pos (4-k)).1).sorted
  have hf:=from_starts (4-k) a b (topF (4-k))
  have h1:((starts (rngs (4-k) a b) (topF (4-k))).map fun e=>(restAt anB k a b e).length).sum<=((starts (rngs (4-k) a b) (topF (4-k))).map fun e=>(atF (4-k) e a).length*(atF (4-k) e b).length).sum:=sum_mono fun e _=>
   boundA k (atF (4-k) e a) (atF (4-k) e b) zo (ha.2.2 e) (hb.2.2 e)
  have h4:=sum_at2_le (f:=4-k) (st:=starts (rngs (4-k) a b) (topF (4-k))) (N:=1) (a:=a) (b:=b) fun x hx y hy=>cnt3_le hs hf ha hb hx hy
  rw[fE]at h4
  exact bO h1 h4
theorem cn_one{w:Bx}:∀(k:Nat),k<=5->w.ok->Cn k [w]
 |0,_,_=>aJ _
 |k+1,hk,hw=>by
  refine⟨fun x hx y hy=>?_,fun x hx=>?_,fun v=>?_⟩
  ·rw[aR.1 hx,aR.1 hy];exact .inl rfl
  ·rw[aR.1 hx];exact(ok_get hw (4-k) zo).1
  ·rw[atF,eD]
   split
   ·exact cn_one k zo hw
   ·exact Cn.nil k
theorem boundO:∀(k:Nat) (a:List Bx),k<=5->Cn k a->(cano orB k a []).length<=a.length
 |0,a,_,_=>by
  rw[cano]
  split
  ·rename_i h
   simp only[orB,bS,dI,List.isEmpty_eq_false_iff,List.isEmpty_nil,ne_eq,not_true_eq_false,or_false]at h
   exact dC.2 (by simpa using h)
  ·exact aL _
 |k+1,a,hk,ha=>by
  rw[cano_succ,flatG_len]
  refine bO (groups_le _ _ _) ?_
  have hs:=(starts_inv (rngs (4-k) a []) (topF_pos (4-k)).1).sorted
  have hf:=from_starts (4-k) a [] (topF (4-k))
  have h1:((starts (rngs (4-k) a []) (topF (4-k))).map fun e=>(restAt orB k a [] e).length).sum<=((starts (rngs (4-k) a []) (topF (4-k))).map fun e=>(atF (4-k) e a).length).sum:=sum_mono fun e _=>
   boundO k (atF (4-k) e a) zo (ha.2.2 e)
  have h4:=sum_at_le (f:=4-k) (st:=starts (rngs (4-k) a []) (topF (4-k))) (N:=1) (a:=a) fun x hx=>by
   have:=cnt_le hs hf ha hx
   simpa using this
  rw[fE]at h4
  exact bO h1 h4
theorem giv_one{w:Bx}(hw:w.ok):(givP [w]).2=0/\(givP [w]).1.length<=1/\Cn 5 (givP [w]).1:=by
 refine⟨?_,?_,(givP_pset _).cn⟩
 all_goals
  unfold givP
  split
  ·simp
  ·have e:addO [] w=cano orB 5 [w] []:=cano_ext2 orB orB 5 _ _ _ _ (aJ _) fun q hq=>by simp[orB,memK_nil]
   have hl:(addO [] w).length<=1:=by rw[e];exact boundO 5 [w] (aJ _) (cn_one 5 (aJ _) hw)
   rw[makeP,makeGo,aH hw,aE zo,makeGo]<;>first|rfl|exact hl
theorem comb_one{a:List Bx}{w:Bx}(ha:setB a=true)(hw:w.ok):(combP anB a [w]).2=0/\(combP anB a [w]).1.length<=a.length:=by
 obtain⟨h1,h2,h3⟩:=giv_one hw
 have hp:=setB_pset ha
 have e:givP a=(a,0):=by rw[givP,aH ha]
 have hb:=boundA 5 a (givP [w]).1 (aJ _) hp.cn h3
 have hm:a.length*(givP [w]).1.length<=a.length*1:=dT _ h2
 have hl:=hp.len
 have hlim:¬4096<(cano anB 5 a (givP [w]).1).length:=by omega
 unfold combP
 rw[e]
 simp only[ne_eq,not_true_eq_false,if_false,h1,limP,limE,aE hlim,true_and]
 omega
/-! with no room -/
theorem mem_pairsB{es:List Ed}{w:Bx}(h:w∈pairsB es):∃(i j:Nat) (a b:Ed),i≠j/\es[i]? =some a/\es[j]? =some b/\w=whoB a.pf b.pf:=by
 rw[pairsB,pairsTo,dH]at h
 obtain⟨⟨a,i⟩,ha,h⟩:=h
 rw[pairsAt,bK]at h
 obtain⟨⟨b,j⟩,hb,rfl⟩:=h
 obtain⟨hb,hij⟩:=bX.1 hb
 rw[cY]at ha hb
 have ha':=List.mem_zipIdx_iff_getElem?.1 ha
 have hb':=List.mem_zipIdx_iff_getElem?.1 hb
 exact⟨i,j,a,b,by simpa using hij,ha',hb',rfl⟩
theorem giv_one_mem{w:Bx}(hw:w.ok){q:Nat->Int}(hq:InP q):memK q 5 (givP [w]).1=memK q 5 [w]:=by
 unfold givP
 split
 ·rfl
 ·have e:addO [] w=cano orB 5 [w] []:=cano_ext2 orB orB 5 _ _ _ _ (aJ _) fun q hq=>by simp[orB,memK_nil]
  have hl:(addO [] w).length<=1:=by rw[e];exact boundO 5 [w] (aJ _) (cn_one 5 (aJ _) hw)
  rw[makeP,makeGo,aH hw,aE zo,makeGo,e,cano_mem orB hq 5 _ _ (aJ _),memK_nil,orB,eK]
def wu(p:Int):Int:=IntKind.u32.wrap p
theorem wu_b(p:Int):0<=wu p/\wu p<=4294967295:=by
 unfold wu;simp only[IntKind.wrap,IntKind.signed,IntKind.bits];simp;omega
def hdrX(y:It):Bx:=⟨fullB.r0,fullB.r1,⟨wu y.proto,wu y.proto,(wu_b _).1,(wu_b _).2,(wu_b _).1,(wu_b _).2⟩,fullB.r3,y.ports⟩
def rgsI(t:Tp)(i:Nt):List Rg:=(t.edges.map fun e=>e.pf.rg)++i.grps.flatMap fun d=>d.items.map fun y=>y.pf.rg
def boxesI(i:Nt):List Bx:=initS++i.svcs.flatMap fun d=>d.items.map hdrX
def AEq(t:Tp)(i:Nt)(v v':Int):Prop:=∀r,r∈rgsI t i->inR r v=inR r v'
structure PEq (t:Tp) (i:Nt) (q q':Nat->Int):Prop where
 s:AEq t i (q 0) (q' 0)
 d:AEq t i (q 1) (q' 1)
 v:∀b,b∈boxesI i->inK q 5 b=inK q' 5 b
def RespR(t:Tp)(i:Nt)(rs:List Rg):Prop:=∀v v',AEq t i v v'->has rs v=has rs v'
def Resp(t:Tp)(i:Nt)(s:List Bx):Prop:=∀q q',InP q->InP q'->PEq t i q q'->memK q 5 s=memK q' 5 s
section
variable {t:Tp} {i:Nt}
theorem RespR.nil:RespR t i []:=fun _ _ _=>rfl
theorem RespR.of{rs:List Rg}(h:∀r,r∈rs->r∈rgsI t i):RespR t i rs:=fun v v' e=>by
 rw[bD,has_iff,has_iff]
 constructor
 ·rintro⟨r,hr,h1,h2⟩
  have:=e r (h r hr)
  simp only[inR]at this
  rw[decide_eq_true h1,decide_eq_true h2]at this
  have h3:=this.symm
  simp only[fA,aF,aI]at h3
  exact⟨r,hr,h3⟩
 ·rintro⟨r,hr,h1,h2⟩
  have:=e r (h r hr)
  simp only[inR]at this
  rw[decide_eq_true h1,decide_eq_true h2]at this
  simp only[fA,aF,aI]at this
  exact⟨r,hr,this⟩
theorem RespR.has{rs out:List Rg}(h:RespR t i rs)(ho:∀v,has out v=has rs v):RespR t i out:=fun v v' e=>by rw[ho,ho,h v v' e]
theorem Resp.nil:Resp t i []:=fun _ _ _ _ _=>rfl
theorem Resp.any{l:List Bx}(h:∀b,b∈l->∀q q',InP q->InP q'->PEq t i q q'->inK q 5 b=inK q' 5 b):Resp t i l:=fun q q' hq hq' e=>by
 rw[bD,memK_iff,memK_iff]
 constructor
 ·rintro⟨b,hb,h1⟩;exact⟨b,hb,by rw[<-h b hb q q' hq hq' e];exact h1⟩
 ·rintro⟨b,hb,h1⟩;exact⟨b,hb,by rw[h b hb q q' hq hq' e];exact h1⟩
theorem makeGo_eq{p:Nat->Int}(hp:InP p):∀(l s:List Bx),(makeGo s l).2=0->memK p 5 (makeGo s l).1=(memK p 5 s||memK p 5 (vldB l))
 |[],s,_=>by rw[makeGo];simp[vldB,memK_nil]
 |b::l,s,h=>by
  rw[makeGo]at h⊢
  rw[vldB_cons]
  split at h
  ·rename_i ho
   rw[aH ho,aH ho]
   split at h
   ·cases h
   ·rename_i hl
    rw[aE hl,makeGo_eq hp l _ h,addO,cano_mem orB hp 5 _ _ (aJ _)]
    have e:memK p 5 [b]=inK p 5 b:=by simp[memK]
    have e2:memK p 5 (b::vldB l)=(inK p 5 b||memK p 5 (vldB l)):=rfl
    rw[e,e2,orB,Bool.or_assoc]
  ·rename_i ho
   rw[aE ho,aE ho]
   exact makeGo_eq hp l s h
theorem makeGo_err:∀(l s:List Bx),(makeGo s l).2≠0->(makeGo s l).1=[]
 |[],s,h=>absurd rfl h
 |b::l,s,h=>by
  rw[makeGo]at h⊢
  split at h
  ·rename_i ho
   rw[aH ho]
   split at h
   ·rename_i hl;rw[aH hl]
   ·rename_i hl;rw[aE hl];exact makeGo_err l _ h
  ·rename_i ho
   rw[aE ho];exact makeGo_err l s h
theorem Resp.make{l:List Bx}(h:Resp t i (vldB l)):Resp t i (makeP l).1:=fun q q' hq hq' e=>by
 by_cases he:(makeP l).2=0
 ·rw[makeP,makeGo_eq hq l [] he,makeGo_eq hq' l [] he,memK_nil,memK_nil,h q q' hq hq' e]
 ·rw[makeP,makeGo_err l [] he,memK_nil,memK_nil]
theorem Resp.giv{l:List Bx}(h:Resp t i (vldB l)):Resp t i (givP l).1:=by
 unfold givP
 split
 ·rename_i hs
  rw[vld_all (okL_set hs)]at h;exact h
 ·exact h.make
theorem Resp.giv_set{l:List Bx}(hs:setB l=true)(h:Resp t i l):Resp t i (givP l).1:=by
 rw[givP,aH hs];exact h
theorem Resp.combG{op:Bool->Bool->Bool}{a b:List Bx}(ha:Resp t i (givP a).1)(hb:Resp t i (givP b).1):Resp t i (combP op a b).1:=by
 unfold combP
 split
 ·exact Resp.nil
 ·split
  ·exact Resp.nil
  ·simp only[limP]
   split
   ·exact Resp.nil
   ·intro q q' hq hq' e
    rw[cano_mem op hq 5 _ _ (aJ _),cano_mem op hq' 5 _ _ (aJ _),ha q q' hq hq' e,hb q q' hq hq' e]
theorem Resp.vld{l:List Bx}(h:∀b,b∈l->∀q q',InP q->InP q'->PEq t i q q'->inK q 5 b=inK q' 5 b):Resp t i (vldB l):=Resp.any fun b hb=>h b (bX.1 hb).1
theorem Resp.init:Resp t i initS:=Resp.any fun b hb q q' _ _ e=>e.v b (cN _ hb)
theorem Resp.hdr{y:It}(h:∃d,d∈i.svcs/\y∈d.items):Resp t i (combP anB initS [hdrX y]).1:=by
 obtain⟨d,hd,hy⟩:=h
 refine Resp.combG (Resp.init.giv_set init_set) (Resp.giv (Resp.vld fun b hb q q' _ _ e=>?_))
 rw[aR.1 hb]
 exact e.v _ (gI _ (dH.2 ⟨d,hd,bK.2 ⟨y,hy,rfl⟩⟩))
def btwX(r s:Rg):Bx:=⟨r,s,fullB.r2,fullB.r3,fullB.r4⟩
theorem inK_btw{r s:Rg}{q:Nat->Int}(hq:InP q):inK q 5 (btwX r s)=(inR r (q 0)&&inR s (q 1)):=by
 have h2:=hq 2;have h3:=hq 3;have h4:=hq 4
 have e2:fullB.r2.lo=0/\fullB.r2.hi=255:=by decide
 have e3:fullB.r3.lo=0/\fullB.r3.hi=65535:=by decide
 have e4:fullB.r4.lo=0/\fullB.r4.hi=65535:=by decide
 have t2:topF 2=255:=rfl
 have t3:topF 3=65535:=rfl
 have t4:topF 4=65535:=rfl
 simp only[inK,inR,Bx.get,btwX,dN,Nat.reduceSub,fL]
 rw[show decide (fullB.r2.lo<=q 2)=true from decide_eq_true zo,show decide (q 2<=fullB.r2.hi)=true from decide_eq_true zo,show decide (fullB.r3.lo<=q 3)=true from decide_eq_true zo,show decide (q 3<=fullB.r3.hi)=true from decide_eq_true zo,show decide (fullB.r4.lo<=q 4)=true from decide_eq_true zo,show decide (q 4<=fullB.r4.hi)=true from decide_eq_true zo]
 simp
def btwB(a b:List Rg):List Bx:=a.flatMap fun r=>b.map fun s=>btwX r s
theorem vld_btw{a b:List Rg}{q:Nat->Int}(hq:InP q):memK q 5 (vldB (btwB a b))=(has a (q 0)&&has b (q 1)):=by
 rw[bD,memK_iff,aF,has_iff,has_iff]
 have hx:∀r s,inK q 5 (btwX r s)=true↔(r.lo<=q 0/\q 0<=r.hi)/\(s.lo<=q 1/\q 1<=s.hi):=fun r s=>by
  rw[inK_btw hq];simp[inR]
 constructor
 ·rintro⟨x,hx1,hx2⟩
  obtain⟨r,hr,hx3⟩:=dH.1 (bX.1 hx1).1
  obtain⟨s,hs,rfl⟩:=bK.1 hx3
  have:=(hx r s).1 hx2
  exact⟨⟨r,hr,this.1⟩,⟨s,hs,this.2⟩⟩
 ·rintro⟨⟨r,hr,h1⟩,⟨s,hs,h2⟩⟩
  have h3:=(hx r s).2 ⟨h1,h2⟩
  refine⟨btwX r s,bX.2 ⟨dH.2 ⟨r,hr,bK.2 ⟨s,hs,rfl⟩⟩,?_⟩,h3⟩
  have hr1:=r.h1;have hs1:=s.h1
  refine decide_eq_true ⟨⟨by show r.lo<=r.hi;omega,hr1⟩,⟨by show s.lo<=s.hi;omega,hs1⟩,(show fullB.r2.lo<=fullB.r2.hi/\fullB.r2.hi<=255 by decide),(show fullB.r3.lo<=fullB.r3.hi/\fullB.r3.hi<=65535 by decide),(show fullB.r4.lo<=fullB.r4.hi/\fullB.r4.hi<=65535 by decide)⟩
theorem Resp.real:Resp t i (realP t).1:=by
 unfold realP
 split
 ·exact Resp.nil
 ·refine Resp.combG (Resp.giv_set (setB_makeP _) (Resp.make (Resp.vld fun b hb q q' hq hq' e=>?_))) (Resp.init.giv_set init_set)
  obtain⟨k,j,x,y,_,hx,hy,rfl⟩:=mem_pairsB hb
  have e1:=e.s x.pf.rg (cN _ (bK.2 ⟨x,aG hx,rfl⟩))
  have e2:=e.d y.pf.rg (cN _ (bK.2 ⟨y,aG hy,rfl⟩))
  have hw:whoB x.pf y.pf=btwX x.pf.rg y.pf.rg:=rfl
  rw[hw,inK_btw hq,inK_btw hq',e1,e2]
end
noncomputable abbrev vN(n:Nat):AV:=.v (.int .i64 (n:Int))
theorem chHas(l:List Nat)(n:Nat)(hl:l.length<=1000000){K:KT}(hK:K (.sb (decide (n∈l))) []):AC 291 [.lst (l.map vN),.v (.int .i64 n)] [] K:=by
 refine gO (ofh17Has rfl rfl ?_)
 (repeat' ((conv=>whnf);first|refine zG ?_|apply zA|intro h|exact zT));all_goals conv=>whnf
 refine gL Nat (fun i=>⟨0,[],[(0,.lst (l.map vN)),(1,.v (.int .i64 n)),(5,.v (.int .i64 i))]⟩) (fun i=>i<=l.length/\∀(k:Nat) x,k<i->l[k]? =some x->¬x=n) (fun i=>l.length-i) 0 ⟨aL _,fun k x h=>absurd h (aY _)⟩ ?_ ?_
 ·(exact leA)
 intro i ⟨hi,hin⟩
 rcases aD i l.length with hil|hil
 ·obtain⟨x,hx⟩:=gex hil
  (repeat' ((conv=>whnf);first|(with_reducible first|refine hJ hil ?_|refine gZ hx ?_)|refine zG ?_|apply zA|intro h|exact zT));all_goals conv=>whnf
  all_goals first
   |exact fin_t hK (decide_eq_true (by rw[show n=x by omega];exact aG hx))
   |(refine⟨i+1,⟨hil,iC hx zo hin⟩,by omega,?_⟩
     rw[aO,aN]
     (exact leA)
     done)
 ·(repeat' ((conv=>whnf);first|refine zG ?_|apply zA|intro h|exact zT));all_goals conv=>whnf
  refine fin_f hK (decide_eq_false fun hm=>?_)
  obtain⟨k,hk⟩:=bI.1 hm
  exact iB hil hin k n hk rfl
theorem wr_u32_eq{p:Int}{K:Int->Prop}(h:K (wu p)):Wr .u32 p K:=Wr.intro rfl h
theorem chHdr(x:It){K:KT}(hK:K (encXs (combP anB initS [hdrX x]).1) []):AC 160 [encIt x] [] K:=by
 have hq:∀{K:KT},K (.tup [encXs (combP anB initS [hdrX x]).1,.v (.int .i64 (combP anB initS [hdrX x]).2)]) []->AC 57 [encXs initS,.lst [.agg [.v (.int .u32 fullB.r0.lo),.v (.int .u32 fullB.r0.hi),.v (.int .u32 fullB.r1.lo),.v (.int .u32 fullB.r1.hi),.v (.int .u32 (wu x.proto)),.v (.int .u32 (wu x.proto)),.v (.int .u32 fullB.r3.lo),.v (.int .u32 fullB.r3.hi),.v (.int .u32 x.ports.lo),.v (.int .u32 x.ports.hi)]]] [] K:=fun {K} h=>@cr4Int initS [hdrX x] zd zx K h
 refine ofh17Hdr rfl rfl ?_
 (repeat' ((conv=>whnf);first|(with_reducible refine cr3Full ?_)|(refine in_c zd ?_)|(with_reducible first|refine wr_u32_eq ?_|refine cr4Init ?_)|(refine sl_full (by rfl) ?_)|(with_reducible refine hq ?_)|refine zG ?_|apply zA|intro h|exact zT));all_goals conv=>whnf
 all_goals exact hK
def nmLB(b:UInt8):Bool:=Nat.ble 97 b.toNat&&Nat.ble b.toNat 122
def nmCB(b:UInt8):Bool:=nmLB b||(Nat.ble 48 b.toNat&&Nat.ble b.toNat 57)||Nat.beq b.toNat 45||Nat.beq b.toNat 95
def nmChk(l:List UInt8):Bool:=match l with
 |[]=>false
 |a::r=>nmLB a&&(r.all nmCB&&(Nat.ble r.length 23&& !(l==[97,110,121])))
theorem nmLB_spec{b:UInt8}(h:nmLB b=true):nmL (b.toNat:Int):=by
 simp only[nmLB,aF]at h
 have h1:=bW h.1;have h2:=bW h.2
 unfold nmL;omega
theorem nmCB_spec{b:UInt8}(h:nmCB b=true):nmC (b.toNat:Int):=by
 simp only[nmCB,bS,aF]at h
 unfold nmC
 rcases h with((h|⟨h1,h2⟩)|h)|h
 ·have:=nmLB_spec h;unfold nmL at this;omega
 ·have h1:=bW h1;have h2:=bW h2;omega
 ·have:=aV h;omega
 ·have:=aV h;omega
theorem nameOk_lit(l:List UInt8)(h:nmChk l=true):nameOk ⟨⟨l⟩⟩:=by
 cases l with
 |nil=>cases h
 |cons a r=>
  simp only[nmChk,aF,bY,dI]at h
  obtain⟨h1,h2,h3,h4⟩:=h
  have h3:=bW h3
  have hget:∀(i:Nat) b,(⟨⟨a::r⟩⟩:ByteArray)[i]? =some b->(a::r)[i]? =some b:=by
   intro i b hb
   by_cases h:i<(⟨⟨a::r⟩⟩:ByteArray).size
   ·rw[getElem?_pos _ i h]at hb
    have h':i<(a::r).length:=h
    rw[aB h']
    exact hb
   ·rw[getElem?_neg _ i h]at hb;cases hb
  refine⟨?_,?_,?_,fun b hb=>?_,fun i b hb=>?_⟩
  ·rw[ByteArray.toList_eq,ByteArray.toList_eq];rfl
  ·show(((a::r).length:Nat):Int)<=24
   simp;omega
  ·rw[ByteArray.toList_eq,ByteArray.toList_eq]
   exact h4
  ·have:=hget 0 b hb
   simp at this;subst this
   exact nmLB_spec h1
  ·have:=hget i b hb
   cases i with
   |zero=>simp at this;subst this;exact nmCB_spec (by simp[nmCB,h1])
   |succ i=>exact nmCB_spec (h2 b (aG (by simpa using this)))
structure GPe (n i:Nat) (e:Ed):Prop where
 name:e.name=enL.getD i default
 d0:0<=e.dev
 d1:e.dev<n
 zone:e.zone∈zoL
 pf:(e.pl=false/\e.pf=subL.getD i noPf)\/(e.pl=true/\e.pf.addr=0/\e.pf.bits∈[24,23,25,22,26,32,30])
structure GPla (t:Tp):Prop where
 d1:1<=t.devs.length
 d6:t.devs.length<=6
 dv:∀(i:Nat) d,t.devs[i]? =some d->GDv i d
 l9:t.links.length<=8
 lk:∀l,l∈t.links->GLk t.devs.length l
 e5:t.edges.length<=5
 ed:∀(i:Nat) e,t.edges[i]? =some e->GPe t.devs.length i e
 pools:t.pools=[pool1]\/t.pools=[pool2]\/t.pools=[pool1,pool2]
 tol:t.tol∈[0,1,0,1,2]
theorem sEq_data(a b:ByteArray):sEq a b=(a.data.toList==b.data.toList):=by rw[sEq,ByteArray.toList_eq,ByteArray.toList_eq]
theorem nameOk_data{s:ByteArray}(h:nmChk s.data.toList=true):nameOk s:=by
 obtain⟨⟨l⟩⟩:=s
 exact nameOk_lit l h
theorem rn_ok{i:Nat}(h:i<6):nameOk (rnL.getD i default):=nameOk_data (by
 have:∀i:Fin 6,nmChk (rnL.getD i.val default).data.toList=true:=by decide
 exact this ⟨i,h⟩)
theorem rn_ne{i j:Nat}(h:i<6)(hj:j<i):sEq (rnL.getD j default) (rnL.getD i default)=false:=by
 have:∀i j:Fin 6,j.val<i.val->((rnL.getD j.val default).data.toList==(rnL.getD i.val default).data.toList)=false:=by decide
 rw[sEq_data];exact this ⟨i,h⟩ ⟨j,by omega⟩ hj
theorem en_ok{i:Nat}(h:i<5):nameOk (enL.getD i default):=nameOk_data (by
 have:∀i:Fin 5,nmChk (enL.getD i.val default).data.toList=true:=by decide
 exact this ⟨i,h⟩)
theorem en_ne{i j:Nat}(h:i<5)(hj:j<i):sEq (enL.getD j default) (enL.getD i default)=false:=by
 have:∀i j:Fin 5,j.val<i.val->((enL.getD j.val default).data.toList==(enL.getD i.val default).data.toList)=false:=by decide
 rw[sEq_data];exact this ⟨i,h⟩ ⟨j,by omega⟩ hj
theorem sEq_refl(a:ByteArray):sEq a a=true:=by rw[sEq_data];simp
theorem zo_ok{s:ByteArray}(h:s∈zoL):nameOk s:=nameOk_data (by
 have:∀s,s∈zoL->nmChk s.data.toList=true:=by
  intro s hs
  simp only[zoL,aS,cK,or_false]at hs
  rcases hs with rfl|rfl|rfl<;>decide
 exact this s h)
theorem cl_ok{s:ByteArray}(h:s∈clL):sEq s ⟨#[]⟩=true\/nameOk s:=by
 simp only[clL,aS,cK,or_false]at h
 rcases h with rfl|rfl|rfl
 ·exact .inl (sEq_refl _)
 ·exact .inr (nameOk_data zd)
 ·exact .inr (nameOk_data zd)
theorem sub_ok{i:Nat}(h:i<5):(subL.getD i noPf).okP/\1<=(subL.getD i noPf).bits:=by
 have:∀i:Fin 5,(subL.getD i.val noPf).okP/\1<=(subL.getD i.val noPf).bits:=by decide
 exact this ⟨i,h⟩
theorem sub_apart{i j:Nat}(h:i<5)(hj:j<i):(subL.getD i noPf).meet (subL.getD j noPf)=false:=by
 have:∀i j:Fin 5,j.val<i.val->(subL.getD i.val noPf).meet (subL.getD j.val noPf)=false:=by decide
 exact this ⟨i,h⟩ ⟨j,by omega⟩ hj
theorem plan_bits{b:Int}(h:b∈[(24:Int),23,25,22,26,32,30]):22<=b/\b<=32:=by
 simp only[aS,cK,or_false]at h
 omega
theorem topOk_pla{t:Tp}(g:GPla t):TopOk t:=by
 have hd6:=g.d6;have he5:=g.e5;have hl9:=g.l9
 have htol:=g.tol
 simp only[aS,cK,or_false]at htol
 refine⟨g.d1,by omega,by omega,by omega,by rcases g.pools with h|h|h<;>rw[h]<;>decide,by omega,by omega,fun i d hi=>?_,fun i l hi=>?_,fun i e hi=>?_,fun i e hi j o hj ho=>?_,fun i p hi=>?_⟩
 ·have hlt:=(aM.1 hi).1
  obtain⟨h1,h2,h3⟩:=g.dv i d hi
  simp only[aS,cK,or_false]at h2
  refine⟨⟨by rw[h1];exact rn_ok zo,by omega,by omega,cl_ok h3⟩,?_⟩
  refine firstIx_at hi (sEq_refl _) fun j y hj hy=>?_
  rw[(g.dv j y hy).name,h1]
  exact rn_ne zo hj
 ·obtain⟨h1,h2,h3,h4⟩:=g.lk l (aG hi)
  simp only[aS,cK,or_false]at h4
  exact⟨h1,h2,h3,by omega,by omega⟩
 ·have hlt:=(aM.1 hi).1
  obtain⟨h1,h2,h3,h4,h5⟩:=g.ed i e hi
  refine⟨⟨by rw[h1];exact en_ok zo,zo_ok h4,h2,h3,?_⟩,?_⟩
  ·rcases h5 with⟨p1,p2⟩|⟨p1,p2,p3⟩
   ·have:=sub_ok (i:=i) zo
    rw[p2];exact⟨this.2,this.1,.inl p1⟩
   ·have:=plan_bits p3
    refine⟨by omega,⟨by omega,by omega,by rw[p2];exact Int.zero_emod _⟩,.inr p2⟩
  ·refine firstIx_at hi (sEq_refl _) fun j y hj hy=>?_
   rw[(g.ed j y hy).name,h1]
   exact en_ne zo hj
 ·rintro⟨q1,q2,q3⟩
  have hlt:=(aM.1 hi).1
  rcases(g.ed i e hi).pf with⟨_,p2⟩|⟨p1,_⟩
  ·rcases(g.ed j o ho).pf with⟨_,r2⟩|⟨r1,_⟩
   ·rw[p2,r2,sub_apart zo hj]at q3;cases q3
   ·rw[r1]at q2;cases q2
  ·rw[p1]at q1;cases q1
 ·rcases g.pools with h|h|h<;>rw[h]at hi⊢
  ·match i,hi with
   |0,hi=>simp at hi;subst hi;exact⟨by decide,fun j q hj=>absurd hj (aY _)⟩
   |i+1,hi=>simp at hi
  ·match i,hi with
   |0,hi=>simp at hi;subst hi;exact⟨by decide,fun j q hj=>absurd hj (aY _)⟩
   |i+1,hi=>simp at hi
  ·match i,hi with
   |0,hi=>simp at hi;subst hi;exact⟨by decide,fun j q hj=>absurd hj (aY _)⟩
   |1,hi=>
    simp at hi;subst hi
    refine⟨by decide,fun j q hj hq=>?_⟩
    have:j=0:=by omega
    subst this
    simp at hq;subst hq
    decide
   |i+2,hi=>simp at hi
theorem topOk_top{t:Tp}(g:GTop t):TopOk t:=by
 have h:GPla {t with pools:=[pool1]}:=⟨g.d1,g.d6,g.dv,g.l9,g.lk,g.e5,fun i e hi=>by
  obtain⟨h1,h2,h3,h4,h5,h6⟩:=g.ed i e hi
  exact⟨h1,h2,h3,h4,.inl ⟨h6,h5⟩⟩,.inl rfl,g.tol⟩
 have k:=topOk_pla h
 rcases g.pools with hp|hp|hp|hp
 ·exact⟨k.d0,k.d1,k.l1,k.e1,by rw[hp];decide,k.t0,k.t1,k.dev,k.link,k.edge,k.apart,fun i p hi=>by rw[hp]at hi;cases hi⟩
 all_goals exact topOk_pla ⟨g.d1,g.d6,g.dv,g.l9,g.lk,g.e5,h.ed,by simp[hp],g.tol⟩
theorem comp_top{t:Tp}(g:GTop t):compB t=true:=by
 simp only[compB,topB_true (topOk_top g),eF,dI]
 rw[eN]
 intro e he
 obtain⟨i,hi⟩:=bI.1 he
 rw[(g.ed i e hi).pl];decide
noncomputable def gyWho:Ctx:={N:=32}
noncomputable def byWho:Code:=bdy Tryz.f91
abbrev ofyWho:=@ofC Tryz.prog gyWho 91 Tryz.f91 byWho Tryz.func91 zk zk zk zk
noncomputable def gyPairs:Ctx:={N:=31,hints:=at1 2 ([.virt 3 10]) (fun _=>[])}
noncomputable def byPairs:Code:=bdy Tryz.f74
abbrev ofyPairs:=@ofC Tryz.prog gyPairs 74 Tryz.f74 byPairs Tryz.func74 zk zk zk zk
noncomputable def gyVal:Ctx:={N:=109,plan:=at1 1 (some (ln [1,2,5,7,9,11,12,15,17,19,21,23,25,26,28,31,33,35,37,39,40,42,45,47])) (at1 6 (some (ln [1,3,4,7,9,11,13,15,17,19,21,23,25,27,29,31,33,35,37,39,41,43,45,47,49,51,53,55,57,58,61,63,65,67,69,71,73,74,77,79])) (fun _=>none)),cut:=at1 8 (true) (fun _=>false)}
noncomputable def byVal:Code:=bdy Tryz.f23
abbrev ofyVal:=@ofC Tryz.prog gyVal 23 Tryz.f23 byVal Tryz.func23 zk zk zk zk
noncomputable def gxInit:Ctx:={N:=28,own:=at1 141 (true) (fun _=>false),hints:=at1 2 ([.virtB 1 0 10]) (fun _=>[])}
noncomputable def bxInit:Code:=bdy Tryz.f69
abbrev ofxInit:=@ofC Tryz.prog gxInit 69 Tryz.f69 bxInit Tryz.func69 zk zk zk zk
noncomputable def gxInitC:Ctx:={N:=31,np:=2,out:=true}
noncomputable def bxInitC:Code:=bdy Tryz.f141
abbrev ofxInitC:=@ofC Tryz.prog gxInitC 141 Tryz.f141 bxInitC Tryz.func141 zk zk zk zk
noncomputable def gxEqB:Ctx:={N:=26,plan:=at1 6 (some (ln [1,3,5,7,9,11,13,15,17])) (fun _=>none)}
noncomputable def bxEqB:Code:=bdy Tryz.f237
abbrev ofxEqB:=@ofC Tryz.prog gxEqB 237 Tryz.f237 bxEqB Tryz.func237 zk zk zk zk
noncomputable def gxCan:Ctx:={N:=170,plan:=at1 13 (some (ln [1,3,5,7,9,11,13,15,17,19,21,23,25,26,28])) (at1 14 (some (ln [1,3,5,7,9,11,15,17,19,21,25,27,12,22,28,31,33,35,37,39])) (at1 19 (some (ln [1,3,5,7,9,11,13,15,17,19,21,23,25,27,29,31,33,35,37,39,41,43,45,46,49])) (fun _=>none))),hints:=at1 8 ([.virt 12 3]) (fun _=>[]),cut:=at1 7 (true) (fun _=>false)}
noncomputable def bxCan:Code:=bdy Tryz.f272
abbrev ofxCan:=@ofC Tryz.prog gxCan 272 Tryz.f272 bxCan Tryz.func272 zk zk zk zk
noncomputable def gxRests:Ctx:={N:=28,own:=at1 234 (true) (fun _=>false)}
noncomputable def bxRests:Code:=bdy Tryz.f236
abbrev ofxRests:=@ofC Tryz.prog gxRests 236 Tryz.f236 bxRests Tryz.func236 zk zk zk zk
noncomputable def gxComb:Ctx:={N:=20}
noncomputable def bxComb:Code:=bdy Tryz.f197
abbrev ofxComb:=@ofC Tryz.prog gxComb 197 Tryz.f197 bxComb Tryz.func197 zk zk zk zk
noncomputable def gxSet:Ctx:={N:=11}
noncomputable def bxSet:Code:=bdy Tryz.f240
abbrev ofxSet:=@ofC Tryz.prog gxSet 240 Tryz.f240 bxSet Tryz.func240 zk zk zk zk
noncomputable def gxOf:Ctx:={N:=33}
noncomputable def bxOf:Code:=bdy Tryz.f153
abbrev ofxOf:=@ofC Tryz.prog gxOf 153 Tryz.f153 bxOf Tryz.func153 zk zk zk zk
noncomputable def gxMake:Ctx:={N:=29,hints:=at1 2 ([.asL 4]) (fun _=>[])}
noncomputable def bxMake:Code:=bdy Tryz.f111
abbrev ofxMake:=@ofC Tryz.prog gxMake 111 Tryz.f111 bxMake Tryz.func111 zk zk zk zk
noncomputable def gxVald:Ctx:={N:=18}
noncomputable def bxVald:Code:=bdy Tryz.f72
abbrev ofxVald:=@ofC Tryz.prog gxVald 72 Tryz.f72 bxVald Tryz.func72 zk zk zk zk
noncomputable def gxDiv:Ctx:={N:=86,plan:=at1 6 (some (ln [1,3,5,7,9,11,13,15,17,19,21,23,25,27,29,31,33,35])) (at1 8 (some (.one 0 true (.one 1 true (.one 2 true (.one 3 true (.one 4 true (.one 5 true (.one 6 true (.one 7 true (.one 8 true (.alt 9 (ln [21,22,24]) (.alt 11 (ln [18,21,24]) (.stop))))))))))))) (at1 14 (some (ln [1,3,5,7,8,11])) (fun _=>none))),cut:=at1 8 (true) (at1 9 (true) (fun _=>false))}
noncomputable def bxDiv:Code:=bdy Tryz.f150
abbrev ofxDiv:=@ofC Tryz.prog gxDiv 150 Tryz.f150 bxDiv Tryz.func150 zk zk zk zk
noncomputable def gxInt:Ctx:={N:=11}
noncomputable def bxInt:Code:=bdy Tryz.f76
abbrev ofxInt:=@ofC Tryz.prog gxInt 76 Tryz.f76 bxInt Tryz.func76 zk zk zk zk
noncomputable def gxUn:Ctx:={N:=11}
noncomputable def bxUn:Code:=bdy Tryz.f114
abbrev ofxUn:=@ofC Tryz.prog gxUn 114 Tryz.f114 bxUn Tryz.func114 zk zk zk zk
noncomputable def gxSub:Ctx:={N:=11}
noncomputable def bxSub:Code:=bdy Tryz.f113
abbrev ofxSub:=@ofC Tryz.prog gxSub 113 Tryz.f113 bxSub Tryz.func113 zk zk zk zk
noncomputable def gxSubs:Ctx:={N:=15}
noncomputable def bxSubs:Code:=bdy Tryz.f73
abbrev ofxSubs:=@ofC Tryz.prog gxSubs 73 Tryz.f73 bxSubs Tryz.func73 zk zk zk zk
noncomputable def gxLst:Ctx:={N:=77,np:=1,own:=at1 238 (true) (fun _=>false),plan:=at1 10 (some (ln [1,3,5,7,9,11,13,15,17,21,23,25,27,29,31,33,37,39,18,34,40])) (fun _=>none),cut:=at1 5 (true) (fun _=>false)}
noncomputable def bxLst:Code:=bdy Tryz.f238
abbrev ofxLst:=@ofC Tryz.prog gxLst 238 Tryz.f238 bxLst Tryz.func238 zk zk zk zk
noncomputable def gxFst:Ctx:={N:=31,own:=at1 238 (true) (fun _=>false)}
noncomputable def bxFst:Code:=bdy Tryz.f151
abbrev ofxFst:=@ofC Tryz.prog gxFst 151 Tryz.f151 bxFst Tryz.func151 zk zk zk zk
noncomputable def gxVals:Ctx:={N:=17}
noncomputable def bxVals:Code:=bdy Tryz.f226
abbrev ofxVals:=@ofC Tryz.prog gxVals 226 Tryz.f226 bxVals Tryz.func226 zk zk zk zk
noncomputable def gxHdr:Ctx:={N:=17}
noncomputable def bxHdr:Code:=bdy Tryz.f290
abbrev ofxHdr:=@ofC Tryz.prog gxHdr 290 Tryz.f290 bxHdr Tryz.func290 zk zk zk zk
noncomputable def gxWith:Ctx:={N:=29}
noncomputable def bxWith:Code:=bdy Tryz.f239
abbrev ofxWith:=@ofC Tryz.prog gxWith 239 Tryz.f239 bxWith Tryz.func239 zk zk zk zk
noncomputable def gxTop:Ctx:={N:=12}
noncomputable def bxTop:Code:=bdy Tryz.f143
abbrev ofxTop:=@ofC Tryz.prog gxTop 143 Tryz.f143 bxTop Tryz.func143 zk zk zk zk
noncomputable def gxFull:Ctx:={N:=15}
noncomputable def bxFull:Code:=bdy Tryz.f142
abbrev ofxFull:=@ofC Tryz.prog gxFull 142 Tryz.f142 bxFull Tryz.func142 zk zk zk zk
noncomputable def gxBVal:Ctx:={N:=24,plan:=at1 4 (some (ln [1,3,5,7,9,11,13,15,17,19,21,23,25])) (fun _=>none)}
noncomputable def bxBVal:Code:=bdy Tryz.f225
abbrev ofxBVal:=@ofC Tryz.prog gxBVal 225 Tryz.f225 bxBVal Tryz.func225 zk zk zk zk
noncomputable def gxCov:Ctx:={N:=36,hints:=at1 2 ([.virt 7 10]) (fun _=>[])}
noncomputable def bxCov:Code:=bdy Tryz.f289
abbrev ofxCov:=@ofC Tryz.prog gxCov 289 Tryz.f289 bxCov Tryz.func289 zk zk zk zk
noncomputable def gxEither:Ctx:={N:=9}
noncomputable def bxEither:Code:=bdy Tryz.f198
abbrev ofxEither:=@ofC Tryz.prog gxEither 198 Tryz.f198 bxEither Tryz.func198 zk zk zk zk
noncomputable def gxBoth:Ctx:={N:=9}
noncomputable def bxBoth:Code:=bdy Tryz.f154
abbrev ofxBoth:=@ofC Tryz.prog gxBoth 154 Tryz.f154 bxBoth Tryz.func154 zk zk zk zk
noncomputable def gxWout:Ctx:={N:=10}
noncomputable def bxWout:Code:=bdy Tryz.f152
abbrev ofxWout:=@ofC Tryz.prog gxWout 152 Tryz.f152 bxWout Tryz.func152 zk zk zk zk
noncomputable def gxCuts:Ctx:={N:=47,own:=at1 324 (true) (at1 325 (true) (fun _=>false)),plan:=at1 8 (some (ln [1,3,5,7,9,11,13,15,17,19,21,23,24,26,29])) (fun _=>none)}
noncomputable def bxCuts:Code:=bdy Tryz.f288
abbrev ofxCuts:=@ofC Tryz.prog gxCuts 288 Tryz.f288 bxCuts Tryz.func288 zk zk zk zk
noncomputable def gxValC:Ctx:={N:=6}
noncomputable def bxValC:Code:=bdy Tryz.f235
abbrev ofxValC:=@ofC Tryz.prog gxValC 235 Tryz.f235 bxValC Tryz.func235 zk zk zk zk
noncomputable def gxIdx:Ctx:={N:=19}
noncomputable def bxIdx:Code:=bdy Tryz.f224
abbrev ofxIdx:=@ofC Tryz.prog gxIdx 224 Tryz.f224 bxIdx Tryz.func224 zk zk zk zk
noncomputable def gxClone:Ctx:={N:=8,res:=true}
noncomputable def bxClone:Code:=bdy Tryz.f234
abbrev ofxClone:=@ofC Tryz.prog gxClone 234 Tryz.f234 bxClone Tryz.func234 zk zk zk zk
noncomputable def gxDel:Ctx:={N:=42,np:=1,res:=true,lend:=at1 224 (true) (fun _=>false)}
noncomputable def bxDel:Code:=bdy Tryz.f233
abbrev ofxDel:=@ofC Tryz.prog gxDel 233 Tryz.f233 bxDel Tryz.func233 zk zk zk zk
noncomputable def gxVal:Ctx:={N:=6,own:=at1 234 (true) (at1 233 (true) (fun _=>false))}
noncomputable def bxVal:Code:=bdy Tryz.f149
abbrev ofxVal:=@ofC Tryz.prog gxVal 149 Tryz.f149 bxVal Tryz.func149 zk zk zk zk
noncomputable def gxDel0:Ctx:={N:=42}
noncomputable def bxDel0:Code:=bdy Tryz.f233
abbrev ofxDel0:=@ofC Tryz.prog gxDel0 233 Tryz.f233 bxDel0 Tryz.func233 zk zk zk zk
end Go.Proofs.YtbdikofefjljoaaGreatDoor
