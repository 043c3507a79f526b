/- Placement in plain Lean: what is placed are the pairs of the policy; it is valid and fits. -/
import Derived.Test.YtahhamfngafmcaaGreatDoorProg
import Derived.Test.YtahhamfngafmcaaGreatDoorM17
set_option linter.unusedVariables false
set_option linter.unusedSimpArgs false
set_option maxRecDepth 100000
set_option maxHeartbeats 4000000
namespace Go.Proofs.YtahhamfngafmcaaGreatDoor
open Go Go.Vm
theorem cn_one{w:Bx}:∀(k:Nat),k<=5->w.ok->Cn k [w]
 |0,_,_=>Nat.le_refl _
 |k+1,hk,hw=>by
  refine⟨fun x hx y hy=>?_,fun x hx=>?_,fun v=>?_⟩
  ·rw[List.mem_singleton.1 hx,List.mem_singleton.1 hy];exact .inl rfl
  ·rw[List.mem_singleton.1 hx];exact(ok_get hw (4-k) (by omega)).1
  ·rw[atF,List.filter_cons]
   split
   ·exact cn_one k (by omega) hw
   ·exact Cn.nil k
theorem boundO:∀(k:Nat) (a:List Bx),k<=5->Cn k a->(cano orB k a []).length<=a.length
 |0,a,_,_=>by
  rw[cano]
  split
  ·rename_i h
   simp only[orB,Bool.or_eq_true,Bool.not_eq_true',List.isEmpty_eq_false_iff,List.isEmpty_nil,ne_eq,not_true_eq_false,or_false]at h
   exact List.length_pos_iff.2 (by simpa using h)
  ·exact Nat.zero_le _
 |k+1,a,hk,ha=>by
  rw[cano_succ,flatG_len]
  refine Nat.le_trans (groups_le _ _ _) ?_
  have hs:=(starts_inv (rngs (4-k) a []) (topF_pos (4-k)).1).sorted
  have hf:=from_starts (4-k) a [] (topF (4-k))
  have h1:((starts (rngs (4-k) a []) (topF (4-k))).map fun e=>(restAt orB k a [] e).length).sum<=((starts (rngs (4-k) a []) (topF (4-k))).map fun e=>(atF (4-k) e a).length).sum:=sum_mono fun e _=>
   boundO k (atF (4-k) e a) (by omega) (ha.2.2 e)
  have h4:=sum_at_le (f:=4-k) (st:=starts (rngs (4-k) a []) (topF (4-k))) (N:=1) (a:=a) fun x hx=>by
   have:=cnt_le hs hf ha hx
   simpa using this
  rw[Nat.mul_one]at h4
  exact Nat.le_trans h1 h4
theorem giv_one{w:Bx}(hw:w.ok):(givP [w]).2=0/\(givP [w]).1.length<=1/\Cn 5 (givP [w]).1:=by
 refine⟨?_,?_,(givP_pset _).cn⟩
 all_goals
  unfold givP
  split
  ·simp
  ·have e:addO [] w=cano orB 5 [w] []:=cano_ext2 orB orB 5 _ _ _ _ (Nat.le_refl _) fun q hq=>by simp[orB,memK_nil]
   have hl:(addO [] w).length<=1:=by rw[e];exact boundO 5 [w] (Nat.le_refl _) (cn_one 5 (Nat.le_refl _) hw)
   rw[makeP,makeGo,if_pos hw,if_neg (by omega),makeGo]<;>first|rfl|exact hl
theorem comb_one{a:List Bx}{w:Bx}(ha:setB a=true)(hw:w.ok):(combP anB a [w]).2=0/\(combP anB a [w]).1.length<=a.length:=by
 obtain⟨h1,h2,h3⟩:=giv_one hw
 have hp:=setB_pset ha
 have e:givP a=(a,0):=by rw[givP,if_pos ha]
 have hb:=boundA 5 a (givP [w]).1 (Nat.le_refl _) hp.cn h3
 have hm:a.length*(givP [w]).1.length<=a.length*1:=Nat.mul_le_mul_left _ h2
 have hl:=hp.len
 have hlim:¬4096<(cano anB 5 a (givP [w]).1).length:=by omega
 unfold combP
 rw[e]
 simp only[ne_eq,not_true_eq_false,if_false,h1,limP,limE,if_neg hlim,true_and]
 omega
/-! with no room -/
theorem mem_pairsB{es:List Ed}{w:Bx}(h:w∈pairsB es):∃(i j:Nat) (a b:Ed),i≠j/\es[i]? =some a/\es[j]? =some b/\w=whoB a.pf b.pf:=by
 rw[pairsB,pairsTo,List.mem_flatMap]at h
 obtain⟨⟨a,i⟩,ha,h⟩:=h
 rw[pairsAt,List.mem_map]at h
 obtain⟨⟨b,j⟩,hb,rfl⟩:=h
 obtain⟨hb,hij⟩:=List.mem_filter.1 hb
 rw[List.take_length]at ha hb
 have ha':=List.mem_zipIdx_iff_getElem?.1 ha
 have hb':=List.mem_zipIdx_iff_getElem?.1 hb
 exact⟨i,j,a,b,by simpa using hij,ha',hb',rfl⟩
theorem giv_one_mem{w:Bx}(hw:w.ok){q:Nat->Int}(hq:InP q):memK q 5 (givP [w]).1=memK q 5 [w]:=by
 unfold givP
 split
 ·rfl
 ·have e:addO [] w=cano orB 5 [w] []:=cano_ext2 orB orB 5 _ _ _ _ (Nat.le_refl _) fun q hq=>by simp[orB,memK_nil]
  have hl:(addO [] w).length<=1:=by rw[e];exact boundO 5 [w] (Nat.le_refl _) (cn_one 5 (Nat.le_refl _) hw)
  rw[makeP,makeGo,if_pos hw,if_neg (by omega),makeGo,e,cano_mem orB hq 5 _ _ (Nat.le_refl _),memK_nil,orB,Bool.or_false]
def wu(p:Int):Int:=IntKind.u32.wrap p
theorem wu_b(p:Int):0<=wu p/\wu p<=4294967295:=by
 unfold wu;simp only[IntKind.wrap,IntKind.signed,IntKind.bits];simp;omega
def hdrX(y:It):Bx:=⟨fullB.r0,fullB.r1,⟨wu y.proto,wu y.proto,(wu_b _).1,(wu_b _).2,(wu_b _).1,(wu_b _).2⟩,fullB.r3,y.ports⟩
def rgsI(t:Tp)(i:Nt):List Rg:=(t.edges.map fun e=>e.pf.rg)++i.grps.flatMap fun d=>d.items.map fun y=>y.pf.rg
def boxesI(i:Nt):List Bx:=initS++i.svcs.flatMap fun d=>d.items.map hdrX
def AEq(t:Tp)(i:Nt)(v v':Int):Prop:=∀r,r∈rgsI t i->inR r v=inR r v'
structure PEq (t:Tp) (i:Nt) (q q':Nat->Int):Prop where
 s:AEq t i (q 0) (q' 0)
 d:AEq t i (q 1) (q' 1)
 v:∀b,b∈boxesI i->inK q 5 b=inK q' 5 b
def RespR(t:Tp)(i:Nt)(rs:List Rg):Prop:=∀v v',AEq t i v v'->has rs v=has rs v'
def Resp(t:Tp)(i:Nt)(s:List Bx):Prop:=∀q q',InP q->InP q'->PEq t i q q'->memK q 5 s=memK q' 5 s
section
variable {t:Tp} {i:Nt}
theorem RespR.nil:RespR t i []:=fun _ _ _=>rfl
theorem RespR.of{rs:List Rg}(h:∀r,r∈rs->r∈rgsI t i):RespR t i rs:=fun v v' e=>by
 rw[Bool.eq_iff_iff,has_iff,has_iff]
 constructor
 ·rintro⟨r,hr,h1,h2⟩
  have:=e r (h r hr)
  simp only[inR]at this
  rw[decide_eq_true h1,decide_eq_true h2]at this
  have h3:=this.symm
  simp only[Bool.and_self,Bool.and_eq_true,decide_eq_true_eq]at h3
  exact⟨r,hr,h3⟩
 ·rintro⟨r,hr,h1,h2⟩
  have:=e r (h r hr)
  simp only[inR]at this
  rw[decide_eq_true h1,decide_eq_true h2]at this
  simp only[Bool.and_self,Bool.and_eq_true,decide_eq_true_eq]at this
  exact⟨r,hr,this⟩
theorem RespR.has{rs out:List Rg}(h:RespR t i rs)(ho:∀v,has out v=has rs v):RespR t i out:=fun v v' e=>by rw[ho,ho,h v v' e]
theorem Resp.nil:Resp t i []:=fun _ _ _ _ _=>rfl
theorem Resp.any{l:List Bx}(h:∀b,b∈l->∀q q',InP q->InP q'->PEq t i q q'->inK q 5 b=inK q' 5 b):Resp t i l:=fun q q' hq hq' e=>by
 rw[Bool.eq_iff_iff,memK_iff,memK_iff]
 constructor
 ·rintro⟨b,hb,h1⟩;exact⟨b,hb,by rw[<-h b hb q q' hq hq' e];exact h1⟩
 ·rintro⟨b,hb,h1⟩;exact⟨b,hb,by rw[h b hb q q' hq hq' e];exact h1⟩
theorem makeGo_eq{p:Nat->Int}(hp:InP p):∀(l s:List Bx),(makeGo s l).2=0->memK p 5 (makeGo s l).1=(memK p 5 s||memK p 5 (vldB l))
 |[],s,_=>by rw[makeGo];simp[vldB,memK_nil]
 |b::l,s,h=>by
  rw[makeGo]at h⊢
  rw[vldB_cons]
  split at h
  ·rename_i ho
   rw[if_pos ho,if_pos ho]
   split at h
   ·cases h
   ·rename_i hl
    rw[if_neg hl,makeGo_eq hp l _ h,addO,cano_mem orB hp 5 _ _ (Nat.le_refl _)]
    have e:memK p 5 [b]=inK p 5 b:=by simp[memK]
    have e2:memK p 5 (b::vldB l)=(inK p 5 b||memK p 5 (vldB l)):=rfl
    rw[e,e2,orB,Bool.or_assoc]
  ·rename_i ho
   rw[if_neg ho,if_neg ho]
   exact makeGo_eq hp l s h
theorem makeGo_err:∀(l s:List Bx),(makeGo s l).2≠0->(makeGo s l).1=[]
 |[],s,h=>absurd rfl h
 |b::l,s,h=>by
  rw[makeGo]at h⊢
  split at h
  ·rename_i ho
   rw[if_pos ho]
   split at h
   ·rename_i hl;rw[if_pos hl]
   ·rename_i hl;rw[if_neg hl];exact makeGo_err l _ h
  ·rename_i ho
   rw[if_neg ho];exact makeGo_err l s h
theorem Resp.make{l:List Bx}(h:Resp t i (vldB l)):Resp t i (makeP l).1:=fun q q' hq hq' e=>by
 by_cases he:(makeP l).2=0
 ·rw[makeP,makeGo_eq hq l [] he,makeGo_eq hq' l [] he,memK_nil,memK_nil,h q q' hq hq' e]
 ·rw[makeP,makeGo_err l [] he,memK_nil,memK_nil]
theorem Resp.giv{l:List Bx}(h:Resp t i (vldB l)):Resp t i (givP l).1:=by
 unfold givP
 split
 ·rename_i hs
  rw[vld_all (okL_set hs)]at h;exact h
 ·exact h.make
theorem Resp.giv_set{l:List Bx}(hs:setB l=true)(h:Resp t i l):Resp t i (givP l).1:=by
 rw[givP,if_pos hs];exact h
theorem Resp.combG{op:Bool->Bool->Bool}{a b:List Bx}(ha:Resp t i (givP a).1)(hb:Resp t i (givP b).1):Resp t i (combP op a b).1:=by
 unfold combP
 split
 ·exact Resp.nil
 ·split
  ·exact Resp.nil
  ·simp only[limP]
   split
   ·exact Resp.nil
   ·intro q q' hq hq' e
    rw[cano_mem op hq 5 _ _ (Nat.le_refl _),cano_mem op hq' 5 _ _ (Nat.le_refl _),ha q q' hq hq' e,hb q q' hq hq' e]
theorem Resp.vld{l:List Bx}(h:∀b,b∈l->∀q q',InP q->InP q'->PEq t i q q'->inK q 5 b=inK q' 5 b):Resp t i (vldB l):=Resp.any fun b hb=>h b (List.mem_filter.1 hb).1
theorem Resp.init:Resp t i initS:=Resp.any fun b hb q q' _ _ e=>e.v b (List.mem_append_left _ hb)
theorem Resp.hdr{y:It}(h:∃d,d∈i.svcs/\y∈d.items):Resp t i (combP anB initS [hdrX y]).1:=by
 obtain⟨d,hd,hy⟩:=h
 refine Resp.combG (Resp.init.giv_set init_set) (Resp.giv (Resp.vld fun b hb q q' _ _ e=>?_))
 rw[List.mem_singleton.1 hb]
 exact e.v _ (List.mem_append_right _ (List.mem_flatMap.2 ⟨d,hd,List.mem_map.2 ⟨y,hy,rfl⟩⟩))
def btwX(r s:Rg):Bx:=⟨r,s,fullB.r2,fullB.r3,fullB.r4⟩
theorem inK_btw{r s:Rg}{q:Nat->Int}(hq:InP q):inK q 5 (btwX r s)=(inR r (q 0)&&inR s (q 1)):=by
 have h2:=hq 2;have h3:=hq 3;have h4:=hq 4
 have e2:fullB.r2.lo=0/\fullB.r2.hi=255:=by decide
 have e3:fullB.r3.lo=0/\fullB.r3.hi=65535:=by decide
 have e4:fullB.r4.lo=0/\fullB.r4.hi=65535:=by decide
 have t2:topF 2=255:=rfl
 have t3:topF 3=65535:=rfl
 have t4:topF 4=65535:=rfl
 simp only[inK,inR,Bx.get,btwX,Nat.sub_self,Nat.reduceSub,Bool.and_true]
 rw[show decide (fullB.r2.lo<=q 2)=true from decide_eq_true (by omega),show decide (q 2<=fullB.r2.hi)=true from decide_eq_true (by omega),show decide (fullB.r3.lo<=q 3)=true from decide_eq_true (by omega),show decide (q 3<=fullB.r3.hi)=true from decide_eq_true (by omega),show decide (fullB.r4.lo<=q 4)=true from decide_eq_true (by omega),show decide (q 4<=fullB.r4.hi)=true from decide_eq_true (by omega)]
 simp
def btwB(a b:List Rg):List Bx:=a.flatMap fun r=>b.map fun s=>btwX r s
theorem Resp.real:Resp t i (realP t).1:=by
 unfold realP
 split
 ·exact Resp.nil
 ·refine Resp.combG (Resp.giv_set (setB_makeP _) (Resp.make (Resp.vld fun b hb q q' hq hq' e=>?_))) (Resp.init.giv_set init_set)
  obtain⟨k,j,x,y,_,hx,hy,rfl⟩:=mem_pairsB hb
  have e1:=e.s x.pf.rg (List.mem_append_left _ (List.mem_map.2 ⟨x,List.mem_of_getElem? hx,rfl⟩))
  have e2:=e.d y.pf.rg (List.mem_append_left _ (List.mem_map.2 ⟨y,List.mem_of_getElem? hy,rfl⟩))
  have hw:whoB x.pf y.pf=btwX x.pf.rg y.pf.rg:=rfl
  rw[hw,inK_btw hq,inK_btw hq',e1,e2]
end
noncomputable abbrev vN(n:Nat):AV:=.v (.int .i64 (n:Int))
theorem wr_u32_eq{p:Int}{K:Int->Prop}(h:K (wu p)):Wr .u32 p K:=Wr.intro rfl h
def nmLB(b:UInt8):Bool:=Nat.ble 97 b.toNat&&Nat.ble b.toNat 122
def nmCB(b:UInt8):Bool:=nmLB b||(Nat.ble 48 b.toNat&&Nat.ble b.toNat 57)||Nat.beq b.toNat 45||Nat.beq b.toNat 95
def nmChk(l:List UInt8):Bool:=match l with
 |[]=>false
 |a::r=>nmLB a&&(r.all nmCB&&(Nat.ble r.length 23&& !(l==[97,110,121])))
theorem nmLB_spec{b:UInt8}(h:nmLB b=true):nmL (b.toNat:Int):=by
 simp only[nmLB,Bool.and_eq_true]at h
 have h1:=Nat.le_of_ble_eq_true h.1;have h2:=Nat.le_of_ble_eq_true h.2
 unfold nmL;omega
theorem nmCB_spec{b:UInt8}(h:nmCB b=true):nmC (b.toNat:Int):=by
 simp only[nmCB,Bool.or_eq_true,Bool.and_eq_true]at h
 unfold nmC
 rcases h with((h|⟨h1,h2⟩)|h)|h
 ·have:=nmLB_spec h;unfold nmL at this;omega
 ·have h1:=Nat.le_of_ble_eq_true h1;have h2:=Nat.le_of_ble_eq_true h2;omega
 ·have:=Nat.eq_of_beq_eq_true h;omega
 ·have:=Nat.eq_of_beq_eq_true h;omega
theorem nameOk_lit(l:List UInt8)(h:nmChk l=true):nameOk ⟨⟨l⟩⟩:=by
 cases l with
 |nil=>cases h
 |cons a r=>
  simp only[nmChk,Bool.and_eq_true,List.all_eq_true,Bool.not_eq_true']at h
  obtain⟨h1,h2,h3,h4⟩:=h
  have h3:=Nat.le_of_ble_eq_true h3
  have hget:∀(i:Nat) b,(⟨⟨a::r⟩⟩:ByteArray)[i]? =some b->(a::r)[i]? =some b:=by
   intro i b hb
   by_cases h:i<(⟨⟨a::r⟩⟩:ByteArray).size
   ·rw[getElem?_pos _ i h]at hb
    have h':i<(a::r).length:=h
    rw[List.getElem?_eq_getElem h']
    exact hb
   ·rw[getElem?_neg _ i h]at hb;cases hb
  refine⟨?_,?_,?_,fun b hb=>?_,fun i b hb=>?_⟩
  ·rw[ByteArray.toList_eq,ByteArray.toList_eq];rfl
  ·show(((a::r).length:Nat):Int)<=24
   simp;omega
  ·rw[ByteArray.toList_eq,ByteArray.toList_eq]
   exact h4
  ·have:=hget 0 b hb
   simp at this;subst this
   exact nmLB_spec h1
  ·have:=hget i b hb
   cases i with
   |zero=>simp at this;subst this;exact nmCB_spec (by simp[nmCB,h1])
   |succ i=>exact nmCB_spec (h2 b (List.mem_of_getElem? (by simpa using this)))
structure GPe (n i:Nat) (e:Ed):Prop where
 name:e.name=enL.getD i default
 d0:0<=e.dev
 d1:e.dev<n
 zone:e.zone∈zoL
 pf:(e.pl=false/\e.pf=subL.getD i noPf)\/(e.pl=true/\e.pf.addr=0/\e.pf.bits∈[24,23,25,22,26,32,30])
structure GPla (t:Tp):Prop where
 d1:1<=t.devs.length
 d6:t.devs.length<=6
 dv:∀(i:Nat) d,t.devs[i]? =some d->GDv i d
 l9:t.links.length<=8
 lk:∀l,l∈t.links->GLk t.devs.length l
 e5:t.edges.length<=5
 ed:∀(i:Nat) e,t.edges[i]? =some e->GPe t.devs.length i e
 pools:t.pools=[pool1]\/t.pools=[pool2]\/t.pools=[pool1,pool2]
 tol:t.tol∈[0,1,0,1,2]
theorem sEq_data(a b:ByteArray):sEq a b=(a.data.toList==b.data.toList):=by rw[sEq,ByteArray.toList_eq,ByteArray.toList_eq]
theorem nameOk_data{s:ByteArray}(h:nmChk s.data.toList=true):nameOk s:=by
 obtain⟨⟨l⟩⟩:=s
 exact nameOk_lit l h
theorem rn_ok{i:Nat}(h:i<6):nameOk (rnL.getD i default):=nameOk_data (by
 have:∀i:Fin 6,nmChk (rnL.getD i.val default).data.toList=true:=by decide
 exact this ⟨i,h⟩)
theorem rn_ne{i j:Nat}(h:i<6)(hj:j<i):sEq (rnL.getD j default) (rnL.getD i default)=false:=by
 have:∀i j:Fin 6,j.val<i.val->((rnL.getD j.val default).data.toList==(rnL.getD i.val default).data.toList)=false:=by decide
 rw[sEq_data];exact this ⟨i,h⟩ ⟨j,by omega⟩ hj
theorem en_ok{i:Nat}(h:i<5):nameOk (enL.getD i default):=nameOk_data (by
 have:∀i:Fin 5,nmChk (enL.getD i.val default).data.toList=true:=by decide
 exact this ⟨i,h⟩)
theorem en_ne{i j:Nat}(h:i<5)(hj:j<i):sEq (enL.getD j default) (enL.getD i default)=false:=by
 have:∀i j:Fin 5,j.val<i.val->((enL.getD j.val default).data.toList==(enL.getD i.val default).data.toList)=false:=by decide
 rw[sEq_data];exact this ⟨i,h⟩ ⟨j,by omega⟩ hj
theorem sEq_refl(a:ByteArray):sEq a a=true:=by rw[sEq_data];simp
theorem zo_ok{s:ByteArray}(h:s∈zoL):nameOk s:=nameOk_data (by
 have:∀s,s∈zoL->nmChk s.data.toList=true:=by
  intro s hs
  simp only[zoL,List.mem_cons,List.not_mem_nil,or_false]at hs
  rcases hs with rfl|rfl|rfl<;>decide
 exact this s h)
theorem cl_ok{s:ByteArray}(h:s∈clL):sEq s ⟨#[]⟩=true\/nameOk s:=by
 simp only[clL,List.mem_cons,List.not_mem_nil,or_false]at h
 rcases h with rfl|rfl|rfl
 ·exact .inl (sEq_refl _)
 ·exact .inr (nameOk_data (by decide))
 ·exact .inr (nameOk_data (by decide))
theorem sub_ok{i:Nat}(h:i<5):(subL.getD i noPf).okP/\1<=(subL.getD i noPf).bits:=by
 have:∀i:Fin 5,(subL.getD i.val noPf).okP/\1<=(subL.getD i.val noPf).bits:=by decide
 exact this ⟨i,h⟩
theorem sub_apart{i j:Nat}(h:i<5)(hj:j<i):(subL.getD i noPf).meet (subL.getD j noPf)=false:=by
 have:∀i j:Fin 5,j.val<i.val->(subL.getD i.val noPf).meet (subL.getD j.val noPf)=false:=by decide
 exact this ⟨i,h⟩ ⟨j,by omega⟩ hj
theorem plan_bits{b:Int}(h:b∈[(24:Int),23,25,22,26,32,30]):22<=b/\b<=32:=by
 simp only[List.mem_cons,List.not_mem_nil,or_false]at h
 omega
theorem topOk_pla{t:Tp}(g:GPla t):TopOk t:=by
 have hd6:=g.d6;have he5:=g.e5;have hl9:=g.l9
 have htol:=g.tol
 simp only[List.mem_cons,List.not_mem_nil,or_false]at htol
 refine⟨g.d1,by omega,by omega,by omega,by rcases g.pools with h|h|h<;>rw[h]<;>decide,by omega,by omega,fun i d hi=>?_,fun i l hi=>?_,fun i e hi=>?_,fun i e hi j o hj ho=>?_,fun i p hi=>?_⟩
 ·have hlt:=(List.getElem?_eq_some_iff.1 hi).1
  obtain⟨h1,h2,h3⟩:=g.dv i d hi
  simp only[List.mem_cons,List.not_mem_nil,or_false]at h2
  refine⟨⟨by rw[h1];exact rn_ok (by omega),by omega,by omega,cl_ok h3⟩,?_⟩
  refine firstIx_at hi (sEq_refl _) fun j y hj hy=>?_
  rw[(g.dv j y hy).name,h1]
  exact rn_ne (by omega) hj
 ·obtain⟨h1,h2,h3,h4⟩:=g.lk l (List.mem_of_getElem? hi)
  simp only[List.mem_cons,List.not_mem_nil,or_false]at h4
  exact⟨h1,h2,h3,by omega,by omega⟩
 ·have hlt:=(List.getElem?_eq_some_iff.1 hi).1
  obtain⟨h1,h2,h3,h4,h5⟩:=g.ed i e hi
  refine⟨⟨by rw[h1];exact en_ok (by omega),zo_ok h4,h2,h3,?_⟩,?_⟩
  ·rcases h5 with⟨p1,p2⟩|⟨p1,p2,p3⟩
   ·have:=sub_ok (i:=i) (by omega)
    rw[p2];exact⟨this.2,this.1,.inl p1⟩
   ·have:=plan_bits p3
    refine⟨by omega,⟨by omega,by omega,by rw[p2];exact Int.zero_emod _⟩,.inr p2⟩
  ·refine firstIx_at hi (sEq_refl _) fun j y hj hy=>?_
   rw[(g.ed j y hy).name,h1]
   exact en_ne (by omega) hj
 ·rintro⟨q1,q2,q3⟩
  have hlt:=(List.getElem?_eq_some_iff.1 hi).1
  rcases(g.ed i e hi).pf with⟨_,p2⟩|⟨p1,_⟩
  ·rcases(g.ed j o ho).pf with⟨_,r2⟩|⟨r1,_⟩
   ·rw[p2,r2,sub_apart (by omega) hj]at q3;cases q3
   ·rw[r1]at q2;cases q2
  ·rw[p1]at q1;cases q1
 ·rcases g.pools with h|h|h<;>rw[h]at hi⊢
  ·match i,hi with
   |0,hi=>simp at hi;subst hi;exact⟨by decide,fun j q hj=>absurd hj (Nat.not_lt_zero _)⟩
   |i+1,hi=>simp at hi
  ·match i,hi with
   |0,hi=>simp at hi;subst hi;exact⟨by decide,fun j q hj=>absurd hj (Nat.not_lt_zero _)⟩
   |i+1,hi=>simp at hi
  ·match i,hi with
   |0,hi=>simp at hi;subst hi;exact⟨by decide,fun j q hj=>absurd hj (Nat.not_lt_zero _)⟩
   |1,hi=>
    simp at hi;subst hi
    refine⟨by decide,fun j q hj hq=>?_⟩
    have:j=0:=by omega
    subst this
    simp at hq;subst hq
    decide
   |i+2,hi=>simp at hi
theorem topOk_top{t:Tp}(g:GTop t):TopOk t:=by
 have h:GPla {t with pools:=[pool1]}:=⟨g.d1,g.d6,g.dv,g.l9,g.lk,g.e5,fun i e hi=>by
  obtain⟨h1,h2,h3,h4,h5,h6⟩:=g.ed i e hi
  exact⟨h1,h2,h3,h4,.inl ⟨h6,h5⟩⟩,.inl rfl,g.tol⟩
 have k:=topOk_pla h
 rcases g.pools with hp|hp|hp|hp
 ·exact⟨k.d0,k.d1,k.l1,k.e1,by rw[hp];decide,k.t0,k.t1,k.dev,k.link,k.edge,k.apart,fun i p hi=>by rw[hp]at hi;cases hi⟩
 all_goals exact topOk_pla ⟨g.d1,g.d6,g.dv,g.l9,g.lk,g.e5,h.ed,by simp[hp],g.tol⟩
theorem comp_top{t:Tp}(g:GTop t):compB t=true:=by
 simp only[compB,topB_true (topOk_top g),Bool.true_and,Bool.not_eq_true']
 rw[List.any_eq_false]
 intro e he
 obtain⟨i,hi⟩:=List.mem_iff_getElem?.1 he
 rw[(g.ed i e hi).pl];decide
noncomputable def gxInit:Ctx:={N:=28,own:=at1 152 (true) (fun _=>false),hints:=at1 2 ([.virtB 1 0 10]) (fun _=>[])}
noncomputable def bxInit:Code:=bdy Tryz.f92
abbrev ofxInit:=@ofC Tryz.prog gxInit 92 Tryz.f92 bxInit Tryz.func92 (by kernel_rfl) (by kernel_rfl) (by kernel_rfl) (by kernel_rfl)
noncomputable def gxInitC:Ctx:={N:=31,np:=2,out:=true}
noncomputable def bxInitC:Code:=bdy Tryz.f152
abbrev ofxInitC:=@ofC Tryz.prog gxInitC 152 Tryz.f152 bxInitC Tryz.func152 (by kernel_rfl) (by kernel_rfl) (by kernel_rfl) (by kernel_rfl)
noncomputable def gxEqB:Ctx:={N:=26,plan:=at1 6 (some (ln [1,3,5,7,9,11,13,15,17])) (fun _=>none)}
noncomputable def bxEqB:Code:=bdy Tryz.f234
abbrev ofxEqB:=@ofC Tryz.prog gxEqB 234 Tryz.f234 bxEqB Tryz.func234 (by kernel_rfl) (by kernel_rfl) (by kernel_rfl) (by kernel_rfl)
noncomputable def gxCan:Ctx:={N:=170,plan:=at1 13 (some (ln [1,3,5,7,9,11,13,15,17,19,21,23,25,26,28])) (at1 14 (some (ln [1,3,5,7,9,11,15,17,19,21,25,27,12,22,28,31,33,35,37,39])) (at1 19 (some (ln [1,3,5,7,9,11,13,15,17,19,21,23,25,27,29,31,33,35,37,39,41,43,45,46,49])) (fun _=>none))),hints:=at1 8 ([.virt 12 3]) (fun _=>[]),cut:=at1 7 (true) (fun _=>false)}
noncomputable def bxCan:Code:=bdy Tryz.f211
abbrev ofxCan:=@ofC Tryz.prog gxCan 211 Tryz.f211 bxCan Tryz.func211 (by kernel_rfl) (by kernel_rfl) (by kernel_rfl) (by kernel_rfl)
noncomputable def gxRests:Ctx:={N:=28,own:=at1 218 (true) (fun _=>false)}
noncomputable def bxRests:Code:=bdy Tryz.f244
abbrev ofxRests:=@ofC Tryz.prog gxRests 244 Tryz.f244 bxRests Tryz.func244 (by kernel_rfl) (by kernel_rfl) (by kernel_rfl) (by kernel_rfl)
noncomputable def gxComb:Ctx:={N:=20}
noncomputable def bxComb:Code:=bdy Tryz.f191
abbrev ofxComb:=@ofC Tryz.prog gxComb 191 Tryz.f191 bxComb Tryz.func191 (by kernel_rfl) (by kernel_rfl) (by kernel_rfl) (by kernel_rfl)
noncomputable def gxSet:Ctx:={N:=11}
noncomputable def bxSet:Code:=bdy Tryz.f190
abbrev ofxSet:=@ofC Tryz.prog gxSet 190 Tryz.f190 bxSet Tryz.func190 (by kernel_rfl) (by kernel_rfl) (by kernel_rfl) (by kernel_rfl)
noncomputable def gxOf:Ctx:={N:=33}
noncomputable def bxOf:Code:=bdy Tryz.f154
abbrev ofxOf:=@ofC Tryz.prog gxOf 154 Tryz.f154 bxOf Tryz.func154 (by kernel_rfl) (by kernel_rfl) (by kernel_rfl) (by kernel_rfl)
noncomputable def gxMake:Ctx:={N:=29,hints:=at1 2 ([.asL 4]) (fun _=>[])}
noncomputable def bxMake:Code:=bdy Tryz.f170
abbrev ofxMake:=@ofC Tryz.prog gxMake 170 Tryz.f170 bxMake Tryz.func170 (by kernel_rfl) (by kernel_rfl) (by kernel_rfl) (by kernel_rfl)
noncomputable def gxVald:Ctx:={N:=18}
noncomputable def bxVald:Code:=bdy Tryz.f210
abbrev ofxVald:=@ofC Tryz.prog gxVald 210 Tryz.f210 bxVald Tryz.func210 (by kernel_rfl) (by kernel_rfl) (by kernel_rfl) (by kernel_rfl)
noncomputable def gxDiv:Ctx:={N:=86,plan:=at1 6 (some (ln [1,3,5,7,9,11,13,15,17,19,21,23,25,27,29,31,33,35])) (at1 8 (some (.one 0 true (.one 1 true (.one 2 true (.one 3 true (.one 4 true (.one 5 true (.one 6 true (.one 7 true (.one 8 true (.alt 9 (.one 10 true (.one 11 false (.one 12 false (.done)))) (.alt 11 (.one 9 false (.one 10 true (.one 12 false (.done)))) (.stop))))))))))))) (at1 14 (some (ln [1,3,5,7,8,11])) (fun _=>none))),cut:=at1 8 (true) (at1 9 (true) (fun _=>false))}
noncomputable def bxDiv:Code:=bdy Tryz.f231
abbrev ofxDiv:=@ofC Tryz.prog gxDiv 231 Tryz.f231 bxDiv Tryz.func231 (by kernel_rfl) (by kernel_rfl) (by kernel_rfl) (by kernel_rfl)
noncomputable def gxInt:Ctx:={N:=11}
noncomputable def bxInt:Code:=bdy Tryz.f95
abbrev ofxInt:=@ofC Tryz.prog gxInt 95 Tryz.f95 bxInt Tryz.func95 (by kernel_rfl) (by kernel_rfl) (by kernel_rfl) (by kernel_rfl)
noncomputable def gxUn:Ctx:={N:=11}
noncomputable def bxUn:Code:=bdy Tryz.f96
abbrev ofxUn:=@ofC Tryz.prog gxUn 96 Tryz.f96 bxUn Tryz.func96 (by kernel_rfl) (by kernel_rfl) (by kernel_rfl) (by kernel_rfl)
noncomputable def gxSub:Ctx:={N:=11}
noncomputable def bxSub:Code:=bdy Tryz.f123
abbrev ofxSub:=@ofC Tryz.prog gxSub 123 Tryz.f123 bxSub Tryz.func123 (by kernel_rfl) (by kernel_rfl) (by kernel_rfl) (by kernel_rfl)
noncomputable def gxTop:Ctx:={N:=12}
noncomputable def bxTop:Code:=bdy Tryz.f153
abbrev ofxTop:=@ofC Tryz.prog gxTop 153 Tryz.f153 bxTop Tryz.func153 (by kernel_rfl) (by kernel_rfl) (by kernel_rfl) (by kernel_rfl)
noncomputable def gxFull:Ctx:={N:=15}
noncomputable def bxFull:Code:=bdy Tryz.f94
abbrev ofxFull:=@ofC Tryz.prog gxFull 94 Tryz.f94 bxFull Tryz.func94 (by kernel_rfl) (by kernel_rfl) (by kernel_rfl) (by kernel_rfl)
noncomputable def gxBVal:Ctx:={N:=24,plan:=at1 4 (some (ln [1,3,5,7,9,11,13,15,17,19,21,23,25])) (fun _=>none)}
noncomputable def bxBVal:Code:=bdy Tryz.f220
abbrev ofxBVal:=@ofC Tryz.prog gxBVal 220 Tryz.f220 bxBVal Tryz.func220 (by kernel_rfl) (by kernel_rfl) (by kernel_rfl) (by kernel_rfl)
noncomputable def gxCov:Ctx:={N:=36,hints:=at1 2 ([.virt 7 10]) (fun _=>[])}
noncomputable def bxCov:Code:=bdy Tryz.f233
abbrev ofxCov:=@ofC Tryz.prog gxCov 233 Tryz.f233 bxCov Tryz.func233 (by kernel_rfl) (by kernel_rfl) (by kernel_rfl) (by kernel_rfl)
noncomputable def gxEither:Ctx:={N:=9}
noncomputable def bxEither:Code:=bdy Tryz.f156
abbrev ofxEither:=@ofC Tryz.prog gxEither 156 Tryz.f156 bxEither Tryz.func156 (by kernel_rfl) (by kernel_rfl) (by kernel_rfl) (by kernel_rfl)
noncomputable def gxBoth:Ctx:={N:=9}
noncomputable def bxBoth:Code:=bdy Tryz.f155
abbrev ofxBoth:=@ofC Tryz.prog gxBoth 155 Tryz.f155 bxBoth Tryz.func155 (by kernel_rfl) (by kernel_rfl) (by kernel_rfl) (by kernel_rfl)
noncomputable def gxWout:Ctx:={N:=10}
noncomputable def bxWout:Code:=bdy Tryz.f171
abbrev ofxWout:=@ofC Tryz.prog gxWout 171 Tryz.f171 bxWout Tryz.func171 (by kernel_rfl) (by kernel_rfl) (by kernel_rfl) (by kernel_rfl)
noncomputable def gxCuts:Ctx:={N:=47,own:=at1 245 (true) (at1 246 (true) (fun _=>false)),plan:=at1 8 (some (ln [1,3,5,7,9,11,13,15,17,19,21,23,24,26,29])) (fun _=>none)}
noncomputable def bxCuts:Code:=bdy Tryz.f232
abbrev ofxCuts:=@ofC Tryz.prog gxCuts 232 Tryz.f232 bxCuts Tryz.func232 (by kernel_rfl) (by kernel_rfl) (by kernel_rfl) (by kernel_rfl)
noncomputable def gxValC:Ctx:={N:=6}
noncomputable def bxValC:Code:=bdy Tryz.f219
abbrev ofxValC:=@ofC Tryz.prog gxValC 219 Tryz.f219 bxValC Tryz.func219 (by kernel_rfl) (by kernel_rfl) (by kernel_rfl) (by kernel_rfl)
noncomputable def gxIdx:Ctx:={N:=19}
noncomputable def bxIdx:Code:=bdy Tryz.f238
abbrev ofxIdx:=@ofC Tryz.prog gxIdx 238 Tryz.f238 bxIdx Tryz.func238 (by kernel_rfl) (by kernel_rfl) (by kernel_rfl) (by kernel_rfl)
noncomputable def gxClone:Ctx:={N:=8,res:=true}
noncomputable def bxClone:Code:=bdy Tryz.f218
abbrev ofxClone:=@ofC Tryz.prog gxClone 218 Tryz.f218 bxClone Tryz.func218 (by kernel_rfl) (by kernel_rfl) (by kernel_rfl) (by kernel_rfl)
noncomputable def gxDel:Ctx:={N:=42,np:=1,res:=true,lend:=at1 238 (true) (fun _=>false)}
noncomputable def bxDel:Code:=bdy Tryz.f217
abbrev ofxDel:=@ofC Tryz.prog gxDel 217 Tryz.f217 bxDel Tryz.func217 (by kernel_rfl) (by kernel_rfl) (by kernel_rfl) (by kernel_rfl)
noncomputable def gxVal:Ctx:={N:=6,own:=at1 218 (true) (at1 217 (true) (fun _=>false))}
noncomputable def bxVal:Code:=bdy Tryz.f202
abbrev ofxVal:=@ofC Tryz.prog gxVal 202 Tryz.f202 bxVal Tryz.func202 (by kernel_rfl) (by kernel_rfl) (by kernel_rfl) (by kernel_rfl)
noncomputable def gxDel0:Ctx:={N:=42}
noncomputable def bxDel0:Code:=bdy Tryz.f217
abbrev ofxDel0:=@ofC Tryz.prog gxDel0 217 Tryz.f217 bxDel0 Tryz.func217 (by kernel_rfl) (by kernel_rfl) (by kernel_rfl) (by kernel_rfl)
end Go.Proofs.YtahhamfngafmcaaGreatDoor
