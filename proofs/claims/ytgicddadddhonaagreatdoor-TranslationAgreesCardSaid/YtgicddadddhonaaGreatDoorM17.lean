/- Lemmas. -/
import Derived.Test.YtgicddadddhonaaGreatDoorProg
import Derived.Test.YtgicddadddhonaaGreatDoorM16
set_option linter.unusedVariables false
set_option linter.unusedSimpArgs false
set_option maxRecDepth 100000
set_option maxHeartbeats 4000000
noncomputable section
namespace Go.Proofs.YtgicddadddhonaaGreatDoor
open Go Go.Vm
theorem aFh{k:Nat}{a b:List Bx}{st:List Int}(hs:st.Pairwise (· < ·))(hf:∀e,e∈st->FromB (4-k) a b e)(ha:Cn (k+1) a)(hb:Cn (k+1) b){x y:Bx}(hx:x∈a)(hy:y∈b):
  ((st.filter (inR (x.get (4-k)))).filter (inR (y.get (4-k)))).length<=1:=by
 have hsub:=rZ (List.Nodup.sublist List.filter_sublist (uQ hs (inR (x.get (4-k))))) (l:=(st.filter (inR (x.get (4-k)))).filter (inR (y.get (4-k)))) (m:=[max (x.get (4-k)).lo (y.get (4-k)).lo]) fun e he=>by
  obtain⟨h1,h3⟩:=cR.1 he;obtain⟨h1,h2⟩:=cR.1 h1;rw[inR,aJ,aL,aL]at h2 h3;have hx2:=ha.2.1 x hx;have hy2:=hb.2.1 y hy;have hor:e=(x.get (4-k)).lo\/e=(y.get (4-k)).lo:=by
   rcases hf e h1 with h|h|h
   ·have:=(x.get (4-k)).l0;left;omega
   ·rcases Iu (d:=[]) ha hx (.inr (.inl h)) h2.1 h2.2 with h|⟨z,hz,_⟩
    ·left;exact h
    ·simp at hz
   ·rcases Iu (d:=[]) hb hy (.inr (.inl h)) h3.1 h3.2 with h|⟨z,hz,_⟩
    ·right;exact h
    ·simp at hz
  have e1:e=max (x.get (4-k)).lo (y.get (4-k)).lo:=by omega
  rw[e1];simp
 simpa using hsub
theorem aAt:∀(k:Nat) (a b:List Bx),k<=5->Cn k a->Cn k b->(jH anB k a b).length<=a.length*b.length
 |0,a,b,_,_,_=>by
  rw[jH];split
  ·rename_i h;simp only[anB,aJ,dX,List.isEmpty_eq_false_iff]at h;have h1:=dC.2 h.1;have h2:=dC.2 h.2;exact Nat.mul_pos h1 h2
  ·exact aK _
 |k+1,a,b,hk,ha,hb=>by
  rw[kT,pB];refine bC (xN _ _ _) ?_;have hs:=(oC (lO (4-k) a b) (kF (4-k)).1).sorted;have hf:=sY (4-k) a b (iX (4-k));have h1:((starts (lO (4-k) a b) (iX (4-k))).map fun e=>(iY anB k a b e).length).sum<=((starts (lO (4-k) a b) (iX (4-k))).map fun e=>(atF (4-k) e a).length*(atF (4-k) e b).length).sum:=Eu fun e _=>
   aAt k (atF (4-k) e a) (atF (4-k) e b) zo (ha.2.2 e) (hb.2.2 e)
  have h4:=zV (f:=4-k) (st:=starts (lO (4-k) a b) (iX (4-k))) (N:=1) (a:=a) (b:=b) fun x hx y hy=>aFh hs hf ha hb hx hy;rw[gG]at h4;exact bC h1 h4
theorem aAN{w:Bx}:∀(k:Nat),k<=5->w.ok->Cn k [w]
 |0,_,_=>aO _
 |k+1,hk,hw=>by
  refine⟨fun x hx y hy=>?_,fun x hx=>?_,fun v=>?_⟩
  ·rw[aU.1 hx,aU.1 hy];exact .inl rfl
  ·rw[aU.1 hx];exact(ok_get hw (4-k) zo).1
  ·rw[atF,fH];split
   ·exact aAN k zo hw
   ·exact Cn.nil k
theorem aAu:∀(k:Nat) (a:List Bx),k<=5->Cn k a->(jH orB k a []).length<=a.length
 |0,a,_,_=>by
  rw[jH];split
  ·rename_i h;simp only[orB,bV,dX,List.isEmpty_eq_false_iff,List.isEmpty_nil,ne_eq,not_true_eq_false,or_false]at h;exact dC.2 (by simpa using h)
  ·exact aK _
 |k+1,a,hk,ha=>by
  rw[kT,pB];refine bC (xN _ _ _) ?_;have hs:=(oC (lO (4-k) a []) (kF (4-k)).1).sorted;have hf:=sY (4-k) a [] (iX (4-k));have h1:((starts (lO (4-k) a []) (iX (4-k))).map fun e=>(iY orB k a [] e).length).sum<=((starts (lO (4-k) a []) (iX (4-k))).map fun e=>(atF (4-k) e a).length).sum:=Eu fun e _=>
   aAu k (atF (4-k) e a) zo (ha.2.2 e)
  have h4:=sF (f:=4-k) (st:=starts (lO (4-k) a []) (iX (4-k))) (N:=1) (a:=a) fun x hx=>by
   have:=cnt_le hs hf ha hx;simpa using this
  rw[gG]at h4;exact bC h1 h4
theorem aGe{w:Bx}(hw:w.ok):(jK [w]).2=0/\(jK [w]).1.length<=1/\Cn 5 (jK [w]).1:=by
 refine⟨?_,?_,(pD _).cn⟩
 all_goals
  unfold jK;split
  ·simp
  ·have e:rI [] w=jH orB 5 [w] []:=tV orB orB 5 _ _ _ _ (aO _) fun q hq=>by simp[orB,lW]
   have hl:(rI [] w).length<=1:=by rw[e];exact aAu 5 [w] (aO _) (aAN 5 (aO _) hw)
   rw[kX,kO,aH hw,aF zo,kO]<;>first|rfl|exact hl
theorem aAP{a:List Bx}{w:Bx}(ha:jW a=true)(hw:w.ok):(iP anB a [w]).2=0/\(iP anB a [w]).1.length<=a.length:=by
 obtain⟨h1,h2,h3⟩:=aGe hw;have hp:=kU ha;have e:jK a=(a,0):=by rw[jK,aH ha]
 have hb:=aAt 5 a (jK [w]).1 (aO _) hp.cn h3;have hm:a.length*(jK [w]).1.length<=a.length*1:=dV _ h2;have hl:=hp.len;have hlim:¬4096<(jH anB 5 a (jK [w]).1).length:=by omega
 unfold iP;rw[e];simp only[ne_eq,not_true_eq_false,if_false,h1,nZ,pM,aF hlim,true_and];omega
/-! with no room -/
theorem Um{es:List Ed}{w:Bx}(h:w∈Fv es):∃(i j:Nat) (a b:Ed),i≠j/\es[i]? =some a/\es[j]? =some b/\w=aRy a.pf b.pf:=by
 rw[Fv,Xk,eA]at h;obtain⟨⟨a,i⟩,ha,h⟩:=h;rw[Xj,bQ]at h;obtain⟨⟨b,j⟩,hb,rfl⟩:=h;obtain⟨hb,hij⟩:=cR.1 hb;rw[dF]at ha hb;have ha':=List.mem_zipIdx_iff_getElem?.1 ha;have hb':=List.mem_zipIdx_iff_getElem?.1 hb;exact⟨i,j,a,b,by simpa using hij,ha',hb',rfl⟩
def wu(p:Int):Int:=IntKind.u32.wrap p
theorem aKf(p:Int):0<=wu p/\wu p<=4294967295:=by
 unfold wu;simp only[IntKind.wrap,IntKind.signed,IntKind.bits];simp;omega
def oW(y:It):Bx:=⟨fullB.r0,fullB.r1,⟨wu y.proto,wu y.proto,(aKf _).1,(aKf _).2,(aKf _).1,(aKf _).2⟩,fullB.r3,y.ports⟩
def aJJ(t:Tp)(i:Nt):List Rg:=(t.edges.map fun e=>e.pf.rg)++i.grps.flatMap fun d=>d.items.map fun y=>y.pf.rg
def aLf(i:Nt):List Bx:=initS++i.svcs.flatMap fun d=>d.items.map oW
def AEq(t:Tp)(i:Nt)(v v':Int):Prop:=∀r,r∈aJJ t i->inR r v=inR r v'
structure PEq (t:Tp) (i:Nt) (q q':Nat->Int):Prop where
 s:AEq t i (q 0) (q' 0)
 d:AEq t i (q 1) (q' 1)
 v:∀b,b∈aLf i->inK q 5 b=inK q' 5 b
def RespR(t:Tp)(i:Nt)(rs:List Rg):Prop:=∀v v',AEq t i v v'->has rs v=has rs v'
def Resp(t:Tp)(i:Nt)(s:List Bx):Prop:=∀q q',InP q->InP q'->PEq t i q q'->jB q 5 s=jB q' 5 s
section
variable {t:Tp} {i:Nt}
theorem RespR.nil:RespR t i []:=fun _ _ _=>rfl
theorem RespR.of{rs:List Rg}(h:∀r,r∈rs->r∈aJJ t i):RespR t i rs:=fun v v' e=>by
 rw[bK,has_iff,has_iff];constructor
 ·rintro⟨r,hr,h1,h2⟩
  have:=e r (h r hr);simp only[inR]at this;rw[decide_eq_true h1,decide_eq_true h2]at this;have h3:=this.symm;simp only[Bool.and_self,aJ,aL]at h3;exact⟨r,hr,h3⟩
 ·rintro⟨r,hr,h1,h2⟩
  have:=e r (h r hr);simp only[inR]at this;rw[decide_eq_true h1,decide_eq_true h2]at this;simp only[Bool.and_self,aJ,aL]at this;exact⟨r,hr,this⟩
theorem RespR.has{rs out:List Rg}(h:RespR t i rs)(ho:∀v,has out v=has rs v):RespR t i out:=fun v v' e=>by rw[ho,ho,h v v' e]
theorem Resp.nil:Resp t i []:=fun _ _ _ _ _=>rfl
theorem Resp.any{l:List Bx}(h:∀b,b∈l->∀q q',InP q->InP q'->PEq t i q q'->inK q 5 b=inK q' 5 b):Resp t i l:=fun q q' hq hq' e=>by
 rw[bK,memK_iff,memK_iff];constructor
 ·rintro⟨b,hb,h1⟩;exact⟨b,hb,by rw[<-h b hb q q' hq hq' e];exact h1⟩
 ·rintro⟨b,hb,h1⟩;exact⟨b,hb,by rw[h b hb q q' hq hq' e];exact h1⟩
theorem uH{p:Nat->Int}(hp:InP p):∀(l s:List Bx),(kO s l).2=0->jB p 5 (kO s l).1=(jB p 5 s||jB p 5 (kL l))
 |[],s,_=>by rw[kO];simp[kL,lW]
 |b::l,s,h=>by
  rw[kO]at h⊢;rw[Z9];split at h
  ·rename_i ho;rw[aH ho,aH ho];split at h
   ·cases h
   ·rename_i hl;rw[aF hl,uH hp l _ h,rI,pH orB hp 5 _ _ (aO _)];have e:jB p 5 [b]=inK p 5 b:=by simp[jB]
    have e2:jB p 5 (b::kL l)=(inK p 5 b||jB p 5 (kL l)):=rfl;rw[e,e2,orB,Bool.or_assoc]
  ·rename_i ho;rw[aF ho,aF ho];exact uH hp l s h
theorem zD:∀(l s:List Bx),(kO s l).2≠0->(kO s l).1=[]
 |[],s,h=>absurd rfl h
 |b::l,s,h=>by
  rw[kO]at h⊢;split at h
  ·rename_i ho;rw[aH ho];split at h
   ·rename_i hl;rw[aH hl]
   ·rename_i hl;rw[aF hl];exact zD l _ h
  ·rename_i ho;rw[aF ho];exact zD l s h
theorem Resp.make{l:List Bx}(h:Resp t i (kL l)):Resp t i (kX l).1:=fun q q' hq hq' e=>by
 by_cases he:(kX l).2=0
 ·rw[kX,uH hq l [] he,uH hq' l [] he,lW,lW,h q q' hq hq' e]
 ·rw[kX,zD l [] he,lW,lW]
theorem Resp.giv{l:List Bx}(h:Resp t i (kL l)):Resp t i (jK l).1:=by
 unfold jK;split
 ·rename_i hs;rw[X5 (rR hs)]at h;exact h
 ·exact h.make
theorem Resp.giv_set{l:List Bx}(hs:jW l=true)(h:Resp t i l):Resp t i (jK l).1:=by
 rw[jK,aH hs];exact h
theorem Resp.combG{op:Bool->Bool->Bool}{a b:List Bx}(ha:Resp t i (jK a).1)(hb:Resp t i (jK b).1):Resp t i (iP op a b).1:=by
 unfold iP;split
 ·exact Resp.nil
 ·split
  ·exact Resp.nil
  ·simp only[nZ];split
   ·exact Resp.nil
   ·intro q q' hq hq' e;rw[pH op hq 5 _ _ (aO _),pH op hq' 5 _ _ (aO _),ha q q' hq hq' e,hb q q' hq hq' e]
theorem Resp.vld{l:List Bx}(h:∀b,b∈l->∀q q',InP q->InP q'->PEq t i q q'->inK q 5 b=inK q' 5 b):Resp t i (kL l):=Resp.any fun b hb=>h b (cR.1 hb).1
theorem Resp.init:Resp t i initS:=Resp.any fun b hb q q' _ _ e=>e.v b (cF _ hb)
theorem Resp.hdr{y:It}(h:∃d,d∈i.svcs/\y∈d.items):Resp t i (iP anB initS [oW y]).1:=by
 obtain⟨d,hd,hy⟩:=h;refine Resp.combG (Resp.init.giv_set D0) (Resp.giv (Resp.vld fun b hb q q' _ _ e=>?_));rw[aU.1 hb];exact e.v _ (eT _ (eA.2 ⟨d,hd,bQ.2 ⟨y,hy,rfl⟩⟩))
def rJ(r s:Rg):Bx:=⟨r,s,fullB.r2,fullB.r3,fullB.r4⟩
theorem Wy{r s:Rg}{q:Nat->Int}(hq:InP q):inK q 5 (rJ r s)=(inR r (q 0)&&inR s (q 1)):=by
 have h2:=hq 2;have h3:=hq 3;have h4:=hq 4;have e2:fullB.r2.lo=0/\fullB.r2.hi=255:=by decide
 have e3:fullB.r3.lo=0/\fullB.r3.hi=65535:=by decide
 have e4:fullB.r4.lo=0/\fullB.r4.hi=65535:=by decide
 have t2:iX 2=255:=rfl;have t3:iX 3=65535:=rfl;have t4:iX 4=65535:=rfl;simp only[inK,inR,Bx.get,rJ,dH,Nat.reduceSub,eK];rw[show decide (fullB.r2.lo<=q 2)=true from decide_eq_true zo,show decide (q 2<=fullB.r2.hi)=true from decide_eq_true zo,show decide (fullB.r3.lo<=q 3)=true from decide_eq_true zo,show decide (q 3<=fullB.r3.hi)=true from decide_eq_true zo,show decide (fullB.r4.lo<=q 4)=true from decide_eq_true zo,show decide (q 4<=fullB.r4.hi)=true from decide_eq_true zo];simp
def lJ(a b:List Rg):List Bx:=a.flatMap fun r=>b.map fun s=>rJ r s
theorem Resp.real:Resp t i (aKW t).1:=by
 unfold aKW;split
 ·exact Resp.nil
 ·refine Resp.combG (Resp.giv_set (qI _) (Resp.make (Resp.vld fun b hb q q' hq hq' e=>?_))) (Resp.init.giv_set D0);obtain⟨k,j,x,y,_,hx,hy,rfl⟩:=Um hb;have e1:=e.s x.pf.rg (cF _ (bQ.2 ⟨x,aG hx,rfl⟩));have e2:=e.d y.pf.rg (cF _ (bQ.2 ⟨y,aG hy,rfl⟩));have hw:aRy x.pf y.pf=rJ x.pf.rg y.pf.rg:=rfl;rw[hw,Wy hq,Wy hq',e1,e2]
end
def aNi:Ctx:={N:=18,plan:=p1 4 Ac pn}
abbrev aIi:=ofD aNi Tryz.func29
def aTX:Ctx:={N:=92,np:=2,own:=oz [14,168],plan:=p1 1 (lz [1,7,9,15,17,23,25] (.wch 5 (.wch 9 (.wch 13 (.alt 1 (lz [5] (.alt 6 (.alt 10 (.alt 14 (ln [31,32,34]) (.alt 16 (ln [28,31,34]) Ab)) (.alt 16 (ln [20,28,31,34]) Ab)) (.alt 16 (ln [12,20,28,31,34]) Ab))) (.alt 16 (ln [2,5,12,20,28,31,34]) Ab)))))) (p1 3 (lz [1,3,5,9,11,17] (.wch 6 (ln [6,14,18,21,22,25,26]))) (p1 8 (lz [1,5,7,9,11] (.wch 1 (ln [12,15,17,19,21,22]))) pn)),cut:=oz [4,7,9]}
abbrev aPT:=ofD aTX Tryz.func101
def Ba:Sched:=.wch 6 (ln [16,19,36,39,41,42,44,47,48])
def aTQ:Ctx:={N:=260,np:=1,own:=oz [14,73,99,100,101,48],plan:=p1 36 (lz [1,5] (.wch 1 (ln [6,9,10,12,15,16]))) (p1 40 (lz [1,5,7,9] (.wch 1 (ln [10,12,14,17,18]))) (p1 43 (lz [1,7,15,21,31,35] (.wch 1 (.wch 11 (lz [25,27] (.wch 14 (.wch 16 (.alt 2 (lz [8,11] Ba) (.alt 4 (.alt 2 (lz [11] Ba) (.alt 8 (lz [19] (.alt 2 (lz [11] (.wch 6 (ln [36,39,41,42,44,47,48]))) (.alt 18 (ln [39,4,11,13,41,42,44,47,48]) Ab))) Ab)) Ab)))))))) (p1 46 (lz [1,5,9,17] (.wch 1 (.wch 3 (lz [11,13] (.wch 7 (ln [18,21,23,25,27,28,30,33,34])))))) pn))),hints:=h1 2 [.virtB 7 0 2,.virtB 7 1 2,.virtB 7 2 2] (h1 6 [.virtB 9 1 7] (h1 16 [.freezeB 9] (h1 21 [.virtB 14 1 7] (h1 34 [.freezeB 14] (h1 37 [.freezeB 7,.virtB 7 3 10] (h1 41 [.virtB 7 4 6,.virtB 7 5 5] hn)))))),cut:=oz [13,15,31,33,37,44,47]}
abbrev aPM:=ofD aTQ Tryz.func43
def aFZ:Ctx:={N:=18}
abbrev aDe:=ofD aFZ Tryz.func226
def aFX:Ctx:={N:=103,np:=3,own:=oz [151],plan:=p1 13 (lp 6 [12,14,17,19,20]) (p1 14 (lp 6 [12,15]) pn),hints:=h1 1 [.renewB 0 1,.renewB 0 2] (h1 6 [.freeze 3] hn),cut:=oz [13],out:=true,lend:=oz [226]}
abbrev D6:=ofD aFX Tryz.func151
def aBJ:Ctx:={N:=28,own:=oz [151],hints:=h1 5 [.virtB 9 1 1,.virtB 9 2 7] hn}
abbrev Zd:=ofD aBJ Tryz.func85
def aFW:Ctx:={N:=33,plan:=p1 5 (lz [1,3,5,7,9,11,13,15,17] (.alt 9 (ln [21,23,25,26,28,31]) (.alt 13 (ln [18,21,23,25,28,31]) Ab))) pn,hints:=h1 2 [.virt 5 2] hn}
abbrev aDc:=ofD aFW Tryz.func83
def aFS:Ctx:={N:=17,hints:=h1 2 [.virt 3 1] hn}
abbrev aCY:=ofD aFS Tryz.func84
def aFY:Ctx:={N:=78,plan:=p1 4 (ln [1,3,4,6,8,11,13]) (p1 13 (lp 8 [16,18,20,23]) pn),hints:=h1 9 [.virt 10 2] hn}
abbrev aDd:=ofD aFY Tryz.func31
def By:Sched:=lz [3] (.alt 0 (ln [4,6,9,11,13,15,17]) (.alt 2 (ln [0,6,9,11,13,15,17]) Ab))
def aGa:Ctx:={N:=26,plan:=p1 4 By pn}
abbrev aDf:=ofD aGa Tryz.func208
def aGc:Ctx:={N:=47,hints:=h1 9 [.asL 8] hn}
abbrev aDh:=ofD aGc Tryz.func123
def aFT:Ctx:={N:=41,plan:=p1 9 (lz [1,3,5,7,9,11,13,17] (.alt 7 (ln [18,21,22]) (.alt 9 (ln [15,21,22]) Ab))) pn,hints:=h1 2 [.virt 6 10] hn}
abbrev aCZ:=ofD aFT Tryz.func209
def aGb:Ctx:={N:=132}
abbrev aDg:=ofD aGb Tryz.func124
def aFV:Ctx:={N:=21}
abbrev aDb:=ofD aFV Tryz.func125
def aFU:Ctx:={N:=162,plan:=p1 6 Au (p1 12 (lp 7 [14,17,19,21,23,25]) (p1 27 Af (p1 32 Af (p1 34 Au pn))))}
abbrev aDa:=ofD aFU Tryz.func62
def aBI:Ctx:={N:=27,hints:=h1 2 [.virt 5 1] hn}
abbrev Zc:=ofD aBI Tryz.func86
def aGg:Ctx:={N:=9}
abbrev aDj:=ofD aGg Tryz.func224
def aBN:Ctx:={N:=9}
abbrev Zh:=ofD aBN Tryz.func147
def Ys:Ctx:={N:=21}
abbrev Uu:=ofD Ys Tryz.func148
def aBL:Ctx:={N:=20}
abbrev Zf:=ofD aBL Tryz.func150
def Yr:Ctx:={N:=20}
abbrev Ut:=ofD Yr Tryz.func126
def aBM:Ctx:={N:=97}
abbrev Zg:=ofD aBM Tryz.func221
def aBK:Ctx:={N:=73}
abbrev Ze:=ofD aBK Tryz.func143
def aGi:Ctx:={N:=11}
abbrev aDl:=ofD aGi Tryz.func145
def aMI:Ctx:={N:=74}
abbrev aHI:=ofD aMI Tryz.func146
def aGh:Ctx:={N:=161,plan:=p1 6 (lp 6 [12,15,17,19,21,23,25,27,29,31,33,37,34,39,41,43,45,47,49,51,53,55,56,59,61]) pn}
abbrev aDk:=ofD aGh Tryz.func81
def aNs:Ctx:={N:=20,plan:=p1 3 (lz [1,3,7,9,11,13] (.alt 2 (ln [14,16,19,21]) (.alt 7 (.alt 2 (ln [16,19,21]) (.alt 8 (ln [4,19,21]) Ab)) Ab))) pn}
abbrev Xg:=ofD aNs Tryz.func313
def aBQ:Ctx:={N:=35,hints:=h1 2 [.virt 5 1] hn}
abbrev Mk:=ofD aBQ Tryz.func279
def aGt:Ctx:={N:=2}
abbrev aDv:=ofD aGt Tryz.func274
def aNt:Ctx:={N:=19}
abbrev aIr:=ofD aNt Tryz.func280
def aNv:Ctx:={N:=36,plan:=p1 3 (lo 11) pn}
abbrev aIt:=ofD aNv Tryz.func305
def aBR:Ctx:={N:=39,plan:=p1 5 (ln [1,3,7,9,4,10,13,15]) pn}
abbrev Zj:=ofD aBR Tryz.func281
def aGv:Ctx:={N:=32,plan:=p1 4 (ln [1,3,5,9,11,13,15,17,19,6,20,23,25]) pn}
abbrev aDx:=ofD aGv Tryz.func241
def aBT:Ctx:={N:=29,plan:=p1 4 Ay pn}
abbrev Zl:=ofD aBT Tryz.func242
def aBS:Ctx:={N:=96,hints:=h1 6 [.virt 4 2] hn}
abbrev Zk:=ofD aBS Tryz.func167
def aNu:Ctx:={N:=10}
abbrev aIs:=ofD aNu Tryz.func303
def aGw:Ctx:={N:=11}
abbrev aDy:=ofD aGw Tryz.func275
def aNw:Ctx:={N:=5}
abbrev aIu:=ofD aNw Tryz.func222
def aGu:Ctx:={N:=70,plan:=p1 16 (ln [1,5,11,13,15,17,19,21,23,25,31,33,35,37,39,41,43,45,47,2,7,9,26,29,48,51,52,54,57]) pn,hints:=h1 6 [.virt 3 1] hn,cut:=oz [16]}
abbrev aDw:=ofD aGu Tryz.func223
def aUa:Ctx:={N:=47,np:=1,own:=oz [14],plan:=p1 3 (lz [1,3,11,13,4,7] (.wch 4 (ln [14,17,19,20,23]))) (p1 7 (lz [1,3,5,13,15,6,9] (.wch 5 (ln [16,19,21,22,24,27]))) pn)}
abbrev aPW:=ofD aUa Tryz.func100
def aNn:Ctx:={N:=20,np:=1,own:=oz [14]}
abbrev aIn:=ofD aNn Tryz.func168
def aTR:Ctx:={N:=12,np:=1,own:=oz [14]}
abbrev aPN:=ofD aTR Tryz.func44
def aGs:Ctx:={N:=20,np:=1,own:=oz [48]}
abbrev Rw:=ofD aGs Tryz.func99
def aNh:Ctx:={N:=41,np:=1,own:=oz [14,33]}
abbrev aIh:=ofD aNh Tryz.func129
def aTL:Ctx:={N:=46,np:=1,own:=oz [14,99,129]}
abbrev aPI:=ofD aTL Tryz.func76
def aGq:Ctx:={N:=34,np:=1,own:=oz [14,76,75],hints:=h1 2 [.virt 7 10] hn}
abbrev Rv:=ofD aGq Tryz.func27
def aTT:Ctx:={N:=35,np:=1,own:=oz [14],plan:=p1 5 (lp 12 [24,27,29,30]) pn}
abbrev aPP:=ofD aTT Tryz.func75
abbrev Yf(b:Bx):List AV:=[.v (.int .u32 b.r0.lo),.v (.int .u32 b.r0.hi),.v (.int .u32 b.r1.lo),.v (.int .u32 b.r1.hi),.v (.int .u32 b.r2.lo),.v (.int .u32 b.r2.hi),.v (.int .u32 b.r3.lo),.v (.int .u32 b.r3.hi),.v (.int .u32 b.r4.lo),.v (.int .u32 b.r4.hi)]
theorem T6{α:Type}{f:α->AV}{l:List α}{i:Nat}{K:AV->Prop}(h:i<l.length)(hk:∀r,r∈l->K (f r)):Ix (l.map f) i K:=aCC (aE h) (hk _ (dE h))
abbrev iK:=@T6
theorem cnRange(raw:List Int)(pos:Nat)(top:Int)(t0:0<=top)(t1:top<=4294967295)(hp:pos<=raw.length)(hr:raw.length<=9223372036854775807){K:KT}
  (hK:∀(r:Rg) (pos':Nat),pos'<=raw.length->K (encR r) [iO raw pos']):AC 99 [.op 0 0,.v (.int .u32 top)] [iO raw pos] K:=by
 refine Rw rfl rfl ?_;(repeat' ((conv=>whnf);first|(with_reducible refine aBe raw _ top t0 t1 zp hr fun a p2 a0 a1 hp2=>?_)|refine zG ?_|apply zA|intro h|exact zT));all_goals conv=>whnf
 all_goals exact hK ⟨_,_,by omega,by omega,by omega,by omega⟩ _ zp
theorem cnAdrs(raw:List Int)(pos:Nat)(hp:pos<=raw.length)(hr:raw.length<=9223372036854775807){K:KT}
  (hK:∀(r:Rg) (pos':Nat),pos'<=raw.length->K (encR r) [iO raw pos']):AC 129 [.op 0 0] [iO raw pos] K:=by
 refine aIh rfl rfl ?_;(repeat' ((conv=>whnf);first|(with_reducible first|refine jI raw _ _ zo zp hr fun m1 p1 hm1 hp1=>?_|refine Gk _ zo ?_|refine Qn _ ?_|refine nM raw _ zp hr fun a p2 a0 a1 hp2=>?_)|refine zG ?_|apply zA|intro h|exact zT));all_goals conv=>whnf
 all_goals first
  |exact hK _ _ zp
  |exact hK ⟨_,_,by omega,by omega,by omega,by omega⟩ _ zp
  |exact hK ⟨_,_,by decide,by decide,by decide,by decide⟩ _ zp
theorem ix_proU{i:Nat}{K:AV->Prop}(hi:i<6)(hk:∀y:Int,0<=y->y<=4294967295->K (.v (.int .u32 y))):Ix [.v (.int .u32 6),.v (.int .u32 17),.v (.int .u32 1),.v (.int .u32 0),.v (.int .u32 7),.v (.int .u32 255)] i K:=by
 match i,hi with
 |0,_=>exact iC rfl (hk 6 zd zd)
 |1,_=>exact iC rfl (hk 17 zd zd)
 |2,_=>exact iC rfl (hk 1 zd zd)
 |3,_=>exact iC rfl (hk 0 zd zd)
 |4,_=>exact iC rfl (hk 7 zd zd)
 |5,_=>exact iC rfl (hk 255 zd zd)
theorem nN5(raw:List Int)(pos:Nat)(hp:pos<=raw.length)(hr:raw.length<=9223372036854775807){K:KT}
  (h0:∀pos':Nat,pos'<=raw.length->K (.v (.int .i64 0)) [iO raw pos'])(h1:∀pos':Nat,pos'<=raw.length->K (.v (.int .i64 1)) [iO raw pos'])(h2:∀pos':Nat,pos'<=raw.length->K (.v (.int .i64 2)) [iO raw pos'])
  (h3:∀pos':Nat,pos'<=raw.length->K (.v (.int .i64 3)) [iO raw pos'])(h4:∀pos':Nat,pos'<=raw.length->K (.v (.int .i64 4)) [iO raw pos']):AC 14 [.op 0 0,.v (.int .i64 5)] [iO raw pos] K:=
 jI raw pos 5 zd hp hr fun m p' hm hp'=>by
  obtain rfl|rfl|rfl|rfl|rfl:m=0\/m=1\/m=2\/m=3\/m=4:=by omega
  ·exact h0 _ hp'
  ·exact h1 _ hp'
  ·exact h2 _ hp'
  ·exact h3 _ hp'
  ·exact h4 _ hp'
theorem aKm(raw:List Int)(pos:Nat)(hp:pos<=raw.length)(hr:raw.length<=9223372036854775807){K:KT}
  (hK:∀(b:Bx) (pos':Nat),pos'<=raw.length->K (iV b) [iO raw pos']):AC 76 [.op 0 0] [iO raw pos] K:=by
 refine aPI rfl rfl ?_;(repeat' ((conv=>whnf);first|(with_reducible first|refine jI raw _ _ zo zp hr fun m1 p1 hm1 hp1=>?_|refine cr3Full ?_)|refine zG ?_|apply zA|intro h|exact zT));all_goals conv=>whnf
 refine gV (Nat×Nat×Bx) (fun g=>⟨3,[(0,iO raw g.1),(1,.box [.v (.int .u32 0),.v (.int .u32 0),.v (.int .u32 0),.v (.int .u32 0),.v (.int .u32 0),.v (.int .u32 0),.v (.int .u32 0),.v (.int .u32 0),.v (.int .u32 0),.v (.int .u32 0)]),(2,.box (Yf g.2.2))],[(0,.op 0 0),(2,.op 1 0),(3,.op 2 0),(4,.v (.int .i64 g.2.1))]⟩)
  (fun g=>g.1<=raw.length/\g.2.1<=10) (fun g=>g.2.1) (p1,m1+1,fullB) ⟨by assumption,by simp only;omega⟩ ?_ ?_
 ·rw[show((p1,m1+1,fullB).2.1:Int)=1+(m1:Int)from by simp only;omega];exact leA
 rintro⟨p2,i,b⟩ ⟨hp2,hi⟩
 simp only at hp2 hi⊢;rcases aD 0 i with hi0|hi0
 ·obtain⟨i',rfl⟩:∃i',i=i'+1:=⟨i-1,by omega⟩
  have hi1:((i'+1:Nat):Int)-1=(i':Int):=by omega
  (repeat' ((conv=>whnf);first|(with_reducible first|refine jO hi1 zo zo ?_|refine jI raw _ _ zo zp hr fun m2 p3 hm2 hp3=>?_|refine iJ zo ?_)|(refine kH zd ?_)|(with_reducible first|refine cnAdrs raw _ zp hr fun r p4 hp4=>?_|refine cnRange raw _ 65535 zd zd zp hr fun r p4 hp4=>?_)|(refine ix_proU zo fun y y0 y1=>?_)|refine zG ?_|apply zA|intro h|exact zT));all_goals conv=>whnf
  ·refine⟨(p4,i',⟨r,b.r1,b.r2,b.r3,b.r4⟩),⟨hp4,by simp only;omega⟩,by simp only;omega,?_⟩;exact leA
  ·refine⟨(p4,i',⟨b.r0,r,b.r2,b.r3,b.r4⟩),⟨hp4,by simp only;omega⟩,by simp only;omega,?_⟩;exact leA
  ·refine⟨(p3,i',⟨b.r0,b.r1,⟨y,y,y0,y1,y0,y1⟩,b.r3,b.r4⟩),⟨hp3,by simp only;omega⟩,by simp only;omega,?_⟩;exact leA
  ·refine⟨(p4,i',⟨b.r0,b.r1,b.r2,r,b.r4⟩),⟨hp4,by simp only;omega⟩,by simp only;omega,?_⟩;exact leA
  ·refine⟨(p4,i',⟨b.r0,b.r1,b.r2,b.r3,r⟩),⟨hp4,by simp only;omega⟩,by simp only;omega,?_⟩;exact leA
 ·obtain rfl:i=0:=by omega
  (repeat' ((conv=>whnf);first|refine zG ?_|apply zA|intro h|exact zT));all_goals conv=>whnf
  exact hK b _ hp2
theorem cnSpB(raw:List Int)(pos:Nat)(b:Bx)(hp:pos<=raw.length)(hr:raw.length<=9223372036854775807){K:KT}
  (hK:∀(b:Bx) (pos':Nat),pos'<=raw.length->K (iV b) [iO raw pos']):AC 75 [.op 0 0,iV b] [iO raw pos] K:=by
 have b0:=And.intro (Rg.l0 b.r0) (Rg.l1 b.r0);have c0:=And.intro (Rg.h0 b.r0) (Rg.h1 b.r0);have b1:=And.intro (Rg.l0 b.r1) (Rg.l1 b.r1);have c1:=And.intro (Rg.h0 b.r1) (Rg.h1 b.r1);have b2:=And.intro (Rg.l0 b.r2) (Rg.l1 b.r2);have c2:=And.intro (Rg.h0 b.r2) (Rg.h1 b.r2);have b3:=And.intro (Rg.l0 b.r3) (Rg.l1 b.r3);have c3:=And.intro (Rg.h0 b.r3) (Rg.h1 b.r3);have b4:=And.intro (Rg.l0 b.r4) (Rg.l1 b.r4);have c4:=And.intro (Rg.h0 b.r4) (Rg.h1 b.r4);have hq:∀(a0 a1 a2 a3 a4 a5 a6 a7 a8 a9:Int) (p':Nat),(0<=a0/\a0<=4294967295/\0<=a1/\a1<=4294967295/\0<=a2/\a2<=4294967295/\0<=a3/\a3<=4294967295/\0<=a4/\a4<=4294967295/\0<=a5/\a5<=4294967295/\0<=a6/\a6<=4294967295/\0<=a7/\a7<=4294967295/\0<=a8/\a8<=4294967295/\0<=a9/\a9<=4294967295)->p'<=raw.length->
   K (.agg [.v (.int .u32 a0),.v (.int .u32 a1),.v (.int .u32 a2),.v (.int .u32 a3),.v (.int .u32 a4),.v (.int .u32 a5),.v (.int .u32 a6),.v (.int .u32 a7),.v (.int .u32 a8),.v (.int .u32 a9)]) [iO raw p']:=fun a0 a1 a2 a3 a4 a5 a6 a7 a8 a9 p' h hp'=>by
  obtain⟨h0,h1,h2,h3,h4,h5,h6,h7,h8,h9,h10,h11,h12,h13,h14,h15,h16,h17,h18,h19⟩:=h;exact hK ⟨⟨a0,a1,h0,h1,h2,h3⟩,⟨a2,a3,h4,h5,h6,h7⟩,⟨a4,a5,h8,h9,h10,h11⟩,⟨a6,a7,h12,h13,h14,h15⟩,⟨a8,a9,h16,h17,h18,h19⟩⟩ p' hp'
 refine aPP rfl rfl ?_;(repeat' ((conv=>whnf);first|(refine nN5 raw _ zp hr (fun p1 hp1=>?_) (fun p1 hp1=>?_) (fun p1 hp1=>?_) (fun p1 hp1=>?_) fun p1 hp1=>?_)|(with_reducible refine jI raw _ _ zo zp hr fun m2 p3 hm2 hp3=>?_)|(refine kH zd ?_)|refine zG ?_|apply zA|intro h|exact zT));all_goals conv=>whnf
 all_goals
  refine hq _ _ _ _ _ _ _ _ _ _ _ ?_ zp;omega
theorem cnBoxes(raw:List Int)(pos:Nat)(n:Nat)(hn:n<=100)(hp:pos<=raw.length)(hr:raw.length<=9223372036854775807){K:KT}
  (hK:∀(l:List Bx) (pos':Nat),l.length<=n->pos'<=raw.length->K (iN l) [iO raw pos']):AC 27 [.op 0 0,.v (.int .i64 n),.sb false] [iO raw pos] K:=by
 refine Rv rfl rfl ?_;(repeat' ((conv=>whnf);first|(with_reducible refine jI raw _ _ zo zp hr fun m1 p1 hm1 hp1=>?_)|refine zG ?_|apply zA|intro h|exact zT));all_goals conv=>whnf
 refine gV (Nat×Nat×List Bx) (fun g=>⟨2,[(0,iO raw g.1),(1,.arr 10 (g.2.2.map iV))],[(0,.op 0 0),(2,.sb false),(7,.os 1 10 0 g.2.2.length),(8,.v (.int .i64 g.2.1))]⟩)
  (fun g=>g.1<=raw.length/\g.2.1+g.2.2.length<=n) (fun g=>g.2.1) (p1,m1,[]) ⟨by assumption,by simp only[aI];omega⟩ ?_ ?_
 ·exact leA
 rintro⟨p2,i,l⟩ ⟨hp2,hi⟩
 simp only at hp2 hi⊢;rcases aD 0 i with hi0|hi0
 ·obtain⟨i',rfl⟩:∃i',i=i'+1:=⟨i-1,by omega⟩
  have hi1:((i'+1:Nat):Int)-1=(i':Int):=by omega
  (repeat' ((conv=>whnf);first|(with_reducible first|refine jO hi1 zo zo ?_|refine aKm raw _ zp hr fun b p3 hp3=>?_)|refine zG ?_|apply zA|intro h|exact zT));all_goals conv=>whnf
  refine⟨(p3,i',l++[b]),⟨hp3,by simp only[aC,aB,aI];omega⟩,by simp only;omega,?_⟩;simp only[aQ,aC,aR,bI,aB,aI];exact leA
 ·obtain rfl:i=0:=by omega
  (repeat' ((conv=>whnf);first|(with_reducible refine iT (aA ..) ?_)|refine zG ?_|apply zA|intro h|exact zT));all_goals conv=>whnf
  exact hK l _ zo hp2
end Go.Proofs.YtgicddadddhonaaGreatDoor
