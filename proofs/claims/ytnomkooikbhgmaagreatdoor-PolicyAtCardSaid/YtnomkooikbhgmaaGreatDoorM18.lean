/- Lemmas. -/
import Derived.Test.YtnomkooikbhgmaaGreatDoorM17
set_option linter.unusedVariables false
set_option linter.unusedSimpArgs false
set_option maxRecDepth 100000
set_option maxHeartbeats 4000000
noncomputable section
namespace Go.Proofs.YtnomkooikbhgmaaGreatDoor
open Go Go.Vm
structure Pl where
 a:Int
 b:Int
 eg:Bool
 allow:List Bx
structure PlIn (t:Tp) (x:Pl):Prop where
 a0:0<=x.a
 a1:x.a<t.edges.length
 b0:0<=x.b
 b1:x.b<t.edges.length
 len:x.allow.length<=4096
theorem PlIn.eg{t:Tp}{x:Pl}(h:PlIn t x)(b:Bool):PlIn t {x with eg:=b}:=⟨h.a0,h.a1,h.b0,h.b1,h.len⟩
theorem cnt3_le{k:Nat}{a b:List Bx}{st:List Int}(hs:st.Pairwise (· < ·))(hf:∀e,e∈st->FromB (4-k) a b e)(ha:Cn (k+1) a)(hb:Cn (k+1) b){x y:Bx}(hx:x∈a)(hy:y∈b):
  ((st.filter (inR (x.get (4-k)))).filter (inR (y.get (4-k)))).length<=1:=by
 have hsub:=nodup_sub (List.Nodup.sublist List.filter_sublist (filter_nodup hs (inR (x.get (4-k))))) (l:=(st.filter (inR (x.get (4-k)))).filter (inR (y.get (4-k)))) (m:=[max (x.get (4-k)).lo (y.get (4-k)).lo]) fun e he=>by
  obtain⟨h1,h3⟩:=cJ.1 he;obtain⟨h1,h2⟩:=cJ.1 h1;rw[inR,aJ,aL,aL]at h2 h3;have hx2:=ha.2.1 x hx;have hy2:=hb.2.1 y hy;have hor:e=(x.get (4-k)).lo\/e=(y.get (4-k)).lo:=by
   rcases hf e h1 with h|h|h
   ·have:=(x.get (4-k)).l0;left;omega
   ·rcases cut_in (d:=[]) ha hx (.inr (.inl h)) h2.1 h2.2 with h|⟨z,hz,_⟩
    ·left;exact h
    ·simp at hz
   ·rcases cut_in (d:=[]) hb hy (.inr (.inl h)) h3.1 h3.2 with h|⟨z,hz,_⟩
    ·right;exact h
    ·simp at hz
  have e1:e=max (x.get (4-k)).lo (y.get (4-k)).lo:=by omega
  rw[e1];simp
 simpa using hsub
theorem boundA:∀(k:Nat) (a b:List Bx),k<=5->Cn k a->Cn k b->(cano anB k a b).length<=a.length*b.length
 |0,a,b,_,_,_=>by
  rw[cano];split
  ·rename_i h;simp only[anB,aJ,dT,List.isEmpty_eq_false_iff]at h;have h1:=dA.2 h.1;have h2:=dA.2 h.2;exact Nat.mul_pos h1 h2
  ·exact aK _
 |k+1,a,b,hk,ha,hb=>by
  rw[cano_succ,flatG_len];refine aZ (groups_le _ _ _) ?_;have hs:=(starts_inv (rngs (4-k) a b) (topF_pos (4-k)).1).sorted;have hf:=from_starts (4-k) a b (topF (4-k));have h1:((starts (rngs (4-k) a b) (topF (4-k))).map fun e=>(restAt anB k a b e).length).sum<=((starts (rngs (4-k) a b) (topF (4-k))).map fun e=>(atF (4-k) e a).length*(atF (4-k) e b).length).sum:=sum_mono fun e _=>
   boundA k (atF (4-k) e a) (atF (4-k) e b) zo (ha.2.2 e) (hb.2.2 e)
  have h4:=sum_at2_le (f:=4-k) (st:=starts (rngs (4-k) a b) (topF (4-k))) (N:=1) (a:=a) (b:=b) fun x hx y hy=>cnt3_le hs hf ha hb hx hy;rw[fS]at h4;exact aZ h1 h4
theorem cn_one{w:Bx}:∀(k:Nat),k<=5->w.ok->Cn k [w]
 |0,_,_=>aM _
 |k+1,hk,hw=>by
  refine⟨fun x hx y hy=>?_,fun x hx=>?_,fun v=>?_⟩
  ·rw[aV.1 hx,aV.1 hy];exact .inl rfl
  ·rw[aV.1 hx];exact(ok_get hw (4-k) zo).1
  ·rw[atF,eY];split
   ·exact cn_one k zo hw
   ·exact Cn.nil k
theorem boundO:∀(k:Nat) (a:List Bx),k<=5->Cn k a->(cano orB k a []).length<=a.length
 |0,a,_,_=>by
  rw[cano];split
  ·rename_i h;simp only[orB,bS,dT,List.isEmpty_eq_false_iff,List.isEmpty_nil,ne_eq,not_true_eq_false,or_false]at h;exact dA.2 (by simpa using h)
  ·exact aK _
 |k+1,a,hk,ha=>by
  rw[cano_succ,flatG_len];refine aZ (groups_le _ _ _) ?_;have hs:=(starts_inv (rngs (4-k) a []) (topF_pos (4-k)).1).sorted;have hf:=from_starts (4-k) a [] (topF (4-k));have h1:((starts (rngs (4-k) a []) (topF (4-k))).map fun e=>(restAt orB k a [] e).length).sum<=((starts (rngs (4-k) a []) (topF (4-k))).map fun e=>(atF (4-k) e a).length).sum:=sum_mono fun e _=>
   boundO k (atF (4-k) e a) zo (ha.2.2 e)
  have h4:=sum_at_le (f:=4-k) (st:=starts (rngs (4-k) a []) (topF (4-k))) (N:=1) (a:=a) fun x hx=>by
   have:=cnt_le hs hf ha hx;simpa using this
  rw[fS]at h4;exact aZ h1 h4
theorem giv_one{w:Bx}(hw:w.ok):(givP [w]).2=0/\(givP [w]).1.length<=1/\Cn 5 (givP [w]).1:=by
 refine⟨?_,?_,(givP_pset _).cn⟩
 all_goals
  unfold givP;split
  ·simp
  ·have e:addO [] w=cano orB 5 [w] []:=cano_ext2 orB orB 5 _ _ _ _ (aM _) fun q hq=>by simp[orB,memK_nil]
   have hl:(addO [] w).length<=1:=by rw[e];exact boundO 5 [w] (aM _) (cn_one 5 (aM _) hw)
   rw[makeP,makeGo,aG hw,aD zo,makeGo]<;>first|rfl|exact hl
theorem comb_one{a:List Bx}{w:Bx}(ha:setB a=true)(hw:w.ok):(combP anB a [w]).2=0/\(combP anB a [w]).1.length<=a.length:=by
 obtain⟨h1,h2,h3⟩:=giv_one hw;have hp:=setB_pset ha;have e:givP a=(a,0):=by rw[givP,aG ha]
 have hb:=boundA 5 a (givP [w]).1 (aM _) hp.cn h3;have hm:a.length*(givP [w]).1.length<=a.length*1:=dS _ h2;have hl:=hp.len;have hlim:¬4096<(cano anB 5 a (givP [w]).1).length:=by omega
 unfold combP;rw[e];simp only[ne_eq,not_true_eq_false,if_false,h1,limP,limE,aD hlim,true_and];omega
/-! with no room -/
theorem mem_pairsB{es:List Ed}{w:Bx}(h:w∈pairsB es):∃(i j:Nat) (a b:Ed),i≠j/\es[i]? =some a/\es[j]? =some b/\w=whoB a.pf b.pf:=by
 rw[pairsB,pairsTo,eD]at h;obtain⟨⟨a,i⟩,ha,h⟩:=h;rw[pairsAt,cD]at h;obtain⟨⟨b,j⟩,hb,rfl⟩:=h;obtain⟨hb,hij⟩:=cJ.1 hb;rw[dD]at ha hb;have ha':=fF.1 ha;have hb':=fF.1 hb;exact⟨i,j,a,b,by simpa using hij,ha',hb',rfl⟩
def wu(p:Int):Int:=IntKind.u32.wrap p
theorem wu_b(p:Int):0<=wu p/\wu p<=4294967295:=by
 unfold wu;simp only[IntKind.wrap,IntKind.signed,IntKind.bits];simp;omega
def hdrX(y:It):Bx:=⟨fullB.r0,fullB.r1,⟨wu y.proto,wu y.proto,(wu_b _).1,(wu_b _).2,(wu_b _).1,(wu_b _).2⟩,fullB.r3,y.ports⟩
def rgsI(t:Tp)(i:Nt):List Rg:=(t.edges.map fun e=>e.pf.rg)++i.grps.flatMap fun d=>d.items.map fun y=>y.pf.rg
def boxesI(i:Nt):List Bx:=initS++i.svcs.flatMap fun d=>d.items.map hdrX
def AEq(t:Tp)(i:Nt)(v v':Int):Prop:=∀r,r∈rgsI t i->inR r v=inR r v'
structure PEq (t:Tp) (i:Nt) (q q':Nat->Int):Prop where
 s:AEq t i (q 0) (q' 0)
 d:AEq t i (q 1) (q' 1)
 v:∀b,b∈boxesI i->inK q 5 b=inK q' 5 b
def RespR(t:Tp)(i:Nt)(rs:List Rg):Prop:=∀v v',AEq t i v v'->has rs v=has rs v'
def Resp(t:Tp)(i:Nt)(s:List Bx):Prop:=∀q q',InP q->InP q'->PEq t i q q'->memK q 5 s=memK q' 5 s
section
variable {t:Tp} {i:Nt}
theorem RespR.nil:RespR t i []:=fun _ _ _=>rfl
theorem RespR.of{rs:List Rg}(h:∀r,r∈rs->r∈rgsI t i):RespR t i rs:=fun v v' e=>by
 rw[bJ,has_iff,has_iff];constructor
 ·rintro⟨r,hr,h1,h2⟩
  have:=e r (h r hr);simp only[inR]at this;rw[decide_eq_true h1,decide_eq_true h2]at this;have h3:=this.symm;simp only[Bool.and_self,aJ,aL]at h3;exact⟨r,hr,h3⟩
 ·rintro⟨r,hr,h1,h2⟩
  have:=e r (h r hr);simp only[inR]at this;rw[decide_eq_true h1,decide_eq_true h2]at this;simp only[Bool.and_self,aJ,aL]at this;exact⟨r,hr,this⟩
theorem RespR.has{rs out:List Rg}(h:RespR t i rs)(ho:∀v,has out v=has rs v):RespR t i out:=fun v v' e=>by rw[ho,ho,h v v' e]
theorem Resp.nil:Resp t i []:=fun _ _ _ _ _=>rfl
theorem Resp.any{l:List Bx}(h:∀b,b∈l->∀q q',InP q->InP q'->PEq t i q q'->inK q 5 b=inK q' 5 b):Resp t i l:=fun q q' hq hq' e=>by
 rw[bJ,memK_iff,memK_iff];constructor
 ·rintro⟨b,hb,h1⟩;exact⟨b,hb,by rw[<-h b hb q q' hq hq' e];exact h1⟩
 ·rintro⟨b,hb,h1⟩;exact⟨b,hb,by rw[h b hb q q' hq hq' e];exact h1⟩
theorem makeGo_eq{p:Nat->Int}(hp:InP p):∀(l s:List Bx),(makeGo s l).2=0->memK p 5 (makeGo s l).1=(memK p 5 s||memK p 5 (vldB l))
 |[],s,_=>by rw[makeGo];simp[vldB,memK_nil]
 |b::l,s,h=>by
  rw[makeGo]at h⊢;rw[vldB_cons];split at h
  ·rename_i ho;rw[aG ho,aG ho];split at h
   ·cases h
   ·rename_i hl;rw[aD hl,makeGo_eq hp l _ h,addO,cano_mem orB hp 5 _ _ (aM _)];have e:memK p 5 [b]=inK p 5 b:=by simp[memK]
    have e2:memK p 5 (b::vldB l)=(inK p 5 b||memK p 5 (vldB l)):=rfl;rw[e,e2,orB,Bool.or_assoc]
  ·rename_i ho;rw[aD ho,aD ho];exact makeGo_eq hp l s h
theorem makeGo_err:∀(l s:List Bx),(makeGo s l).2≠0->(makeGo s l).1=[]
 |[],s,h=>absurd rfl h
 |b::l,s,h=>by
  rw[makeGo]at h⊢;split at h
  ·rename_i ho;rw[aG ho];split at h
   ·rename_i hl;rw[aG hl]
   ·rename_i hl;rw[aD hl];exact makeGo_err l _ h
  ·rename_i ho;rw[aD ho];exact makeGo_err l s h
theorem Resp.make{l:List Bx}(h:Resp t i (vldB l)):Resp t i (makeP l).1:=fun q q' hq hq' e=>by
 by_cases he:(makeP l).2=0
 ·rw[makeP,makeGo_eq hq l [] he,makeGo_eq hq' l [] he,memK_nil,memK_nil,h q q' hq hq' e]
 ·rw[makeP,makeGo_err l [] he,memK_nil,memK_nil]
theorem Resp.giv{l:List Bx}(h:Resp t i (vldB l)):Resp t i (givP l).1:=by
 unfold givP;split
 ·rename_i hs;rw[vld_all (okL_set hs)]at h;exact h
 ·exact h.make
theorem Resp.giv_set{l:List Bx}(hs:setB l=true)(h:Resp t i l):Resp t i (givP l).1:=by
 rw[givP,aG hs];exact h
theorem Resp.combG{op:Bool->Bool->Bool}{a b:List Bx}(ha:Resp t i (givP a).1)(hb:Resp t i (givP b).1):Resp t i (combP op a b).1:=by
 unfold combP;split
 ·exact Resp.nil
 ·split
  ·exact Resp.nil
  ·simp only[limP];split
   ·exact Resp.nil
   ·intro q q' hq hq' e;rw[cano_mem op hq 5 _ _ (aM _),cano_mem op hq' 5 _ _ (aM _),ha q q' hq hq' e,hb q q' hq hq' e]
theorem Resp.vld{l:List Bx}(h:∀b,b∈l->∀q q',InP q->InP q'->PEq t i q q'->inK q 5 b=inK q' 5 b):Resp t i (vldB l):=Resp.any fun b hb=>h b (cJ.1 hb).1
theorem Resp.init:Resp t i initS:=Resp.any fun b hb q q' _ _ e=>e.v b (cK _ hb)
theorem Resp.hdr{y:It}(h:∃d,d∈i.svcs/\y∈d.items):Resp t i (combP anB initS [hdrX y]).1:=by
 obtain⟨d,hd,hy⟩:=h;refine Resp.combG (Resp.init.giv_set init_set) (Resp.giv (Resp.vld fun b hb q q' _ _ e=>?_));rw[aV.1 hb];exact e.v _ (fA _ (eD.2 ⟨d,hd,cD.2 ⟨y,hy,rfl⟩⟩))
def btwX(r s:Rg):Bx:=⟨r,s,fullB.r2,fullB.r3,fullB.r4⟩
theorem inK_btw{r s:Rg}{q:Nat->Int}(hq:InP q):inK q 5 (btwX r s)=(inR r (q 0)&&inR s (q 1)):=by
 have h2:=hq 2;have h3:=hq 3;have h4:=hq 4;have e2:fullB.r2.lo=0/\fullB.r2.hi=255:=by decide
 have e3:fullB.r3.lo=0/\fullB.r3.hi=65535:=by decide
 have e4:fullB.r4.lo=0/\fullB.r4.hi=65535:=by decide
 have t2:topF 2=255:=rfl;have t3:topF 3=65535:=rfl;have t4:topF 4=65535:=rfl;simp only[inK,inR,Bx.get,btwX,dX,Nat.reduceSub,eW];rw[show decide (fullB.r2.lo<=q 2)=true from decide_eq_true zo,show decide (q 2<=fullB.r2.hi)=true from decide_eq_true zo,show decide (fullB.r3.lo<=q 3)=true from decide_eq_true zo,show decide (q 3<=fullB.r3.hi)=true from decide_eq_true zo,show decide (fullB.r4.lo<=q 4)=true from decide_eq_true zo,show decide (q 4<=fullB.r4.hi)=true from decide_eq_true zo];simp
def btwB(a b:List Rg):List Bx:=a.flatMap fun r=>b.map fun s=>btwX r s
theorem Resp.real:Resp t i (realP t).1:=by
 unfold realP;split
 ·exact Resp.nil
 ·refine Resp.combG (Resp.giv_set (setB_makeP _) (Resp.make (Resp.vld fun b hb q q' hq hq' e=>?_))) (Resp.init.giv_set init_set);obtain⟨k,j,x,y,_,hx,hy,rfl⟩:=mem_pairsB hb;have e1:=e.s x.pf.rg (cK _ (cD.2 ⟨x,aI hx,rfl⟩));have e2:=e.d y.pf.rg (cK _ (cD.2 ⟨y,aI hy,rfl⟩));have hw:whoB x.pf y.pf=btwX x.pf.rg y.pf.rg:=rfl;rw[hw,inK_btw hq,inK_btw hq',e1,e2]
end
abbrev vN(n:Nat):AV:=.v (.int .i64 (n:Int))
theorem chHas(l:List Nat)(n:Nat)(hl:l.length<=1000000){K:KT}(hK:K (.sb (decide (n∈l))) []):AC 294 [.lst (l.map vN),.v (.int .i64 n)] [] K:=by
 refine gO (ofh17Has rfl rfl ?_);(repeat' ((conv=>whnf);first|refine zG ?_|apply zA|intro h|exact zT));all_goals conv=>whnf
 refine gL Nat (fun i=>⟨0,[],[(0,.lst (l.map vN)),(1,.v (.int .i64 n)),(5,.v (.int .i64 i))]⟩) (fun i=>i<=l.length/\∀(k:Nat) x,k<i->l[k]? =some x->¬x=n) (fun i=>l.length-i) 0 ⟨aK _,fun k x h=>absurd h (bC _)⟩ ?_ ?_
 ·exact leA
 intro i ⟨hi,hin⟩;rcases aF i l.length with hil|hil
 ·obtain⟨x,hx⟩:=gex hil;(repeat' ((conv=>whnf);first|(with_reducible first|refine hU hil ?_|refine hJ hx ?_)|refine zG ?_|apply zA|intro h|exact zT));all_goals conv=>whnf
  all_goals first
   |exact fin_t hK (decide_eq_true (by rw[show n=x by omega];exact aI hx))
   |(refine⟨i+1,⟨hil,iC hx zo hin⟩,by omega,?_⟩
     rw[aO,aN];exact leA)
 ·(repeat' ((conv=>whnf);first|refine zG ?_|apply zA|intro h|exact zT));all_goals conv=>whnf
  refine fin_f hK (decide_eq_false fun hm=>?_);obtain⟨k,hk⟩:=bN.1 hm;exact iB hil hin k n hk rfl
theorem wr_u32_eq{p:Int}{K:Int->Prop}(h:K (wu p)):Wr .u32 p K:=Wr.intro rfl h
theorem chHdr(x:It){K:KT}(hK:K (encXs (combP anB initS [hdrX x]).1) []):AC 180 [encIt x] [] K:=by
 have hq:∀{K:KT},K (.tup [encXs (combP anB initS [hdrX x]).1,.v (.int .i64 (combP anB initS [hdrX x]).2)]) []->AC 39 [encXs initS,.lst [.agg [.v (.int .u32 fullB.r0.lo),.v (.int .u32 fullB.r0.hi),.v (.int .u32 fullB.r1.lo),.v (.int .u32 fullB.r1.hi),.v (.int .u32 (wu x.proto)),.v (.int .u32 (wu x.proto)),.v (.int .u32 fullB.r3.lo),.v (.int .u32 fullB.r3.hi),.v (.int .u32 x.ports.lo),.v (.int .u32 x.ports.hi)]]] [] K:=fun {K} h=>@cr4Int initS [hdrX x] zd zx K h;refine ofh17Hdr rfl rfl ?_;(repeat' ((conv=>whnf);first|(with_reducible refine cr3Full ?_)|(refine in_c zd ?_)|(with_reducible first|refine wr_u32_eq ?_|refine cr4Init ?_)|(refine sl_full (by rfl) ?_)|(with_reducible refine hq ?_)|refine zG ?_|apply zA|intro h|exact zT));all_goals conv=>whnf
 all_goals exact hK
def nmLB(b:UInt8):Bool:=Nat.ble 97 b.toNat&&Nat.ble b.toNat 122
def nmCB(b:UInt8):Bool:=nmLB b||(Nat.ble 48 b.toNat&&Nat.ble b.toNat 57)||Nat.beq b.toNat 45||Nat.beq b.toNat 95
def nmChk(l:List UInt8):Bool:=match l with
 |[]=>false
 |a::r=>nmLB a&&(r.all nmCB&&(Nat.ble r.length 23&& !(l==[97,110,121])))
theorem nmLB_spec{b:UInt8}(h:nmLB b=true):nmL (b.toNat:Int):=by
 simp only[nmLB,aJ]at h;have h1:=bW h.1;have h2:=bW h.2;unfold nmL;omega
theorem nmCB_spec{b:UInt8}(h:nmCB b=true):nmC (b.toNat:Int):=by
 simp only[nmCB,bS,aJ]at h;unfold nmC;rcases h with((h|⟨h1,h2⟩)|h)|h
 ·have:=nmLB_spec h;unfold nmL at this;omega
 ·have h1:=bW h1;have h2:=bW h2;omega
 ·have:=aW h;omega
 ·have:=aW h;omega
theorem nameOk_lit(l:List UInt8)(h:nmChk l=true):nameOk ⟨⟨l⟩⟩:=by
 cases l with
 |nil=>cases h
 |cons a r=>
  simp only[nmChk,aJ,bR,dT]at h;obtain⟨h1,h2,h3,h4⟩:=h;have h3:=bW h3;have hget:∀(i:Nat) b,(⟨⟨a::r⟩⟩:ByteArray)[i]? =some b->(a::r)[i]? =some b:=by
   intro i b hb;by_cases h:i<(⟨⟨a::r⟩⟩:ByteArray).size
   ·rw[getElem?_pos _ i h]at hb;have h':i<(a::r).length:=h;rw[aE h'];exact hb
   ·rw[getElem?_neg _ i h]at hb;cases hb
  refine⟨?_,?_,?_,fun b hb=>?_,fun i b hb=>?_⟩
  ·rw[ByteArray.toList_eq,ByteArray.toList_eq];rfl
  ·show(((a::r).length:Nat):Int)<=24;simp;omega
  ·rw[ByteArray.toList_eq,ByteArray.toList_eq];exact h4
  ·have:=hget 0 b hb;simp at this;subst this;exact nmLB_spec h1
  ·have:=hget i b hb;cases i with
   |zero=>simp at this;subst this;exact nmCB_spec (by simp[nmCB,h1])
   |succ i=>exact nmCB_spec (h2 b (aI (by simpa using this)))
theorem sEq_data(a b:ByteArray):sEq a b=(a.data.toList==b.data.toList):=by rw[sEq,ByteArray.toList_eq,ByteArray.toList_eq]
theorem nameOk_data{s:ByteArray}(h:nmChk s.data.toList=true):nameOk s:=by
 obtain⟨⟨l⟩⟩:=s;exact nameOk_lit l h
end Go.Proofs.YtnomkooikbhgmaaGreatDoor
