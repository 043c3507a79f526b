/- Lemmas. -/
import Derived.Test.YtnomkooikbhgmaaGreatDoorK17
set_option linter.unusedVariables false
set_option linter.unusedSimpArgs false
set_option maxRecDepth 100000
set_option maxHeartbeats 4000000
noncomputable section
namespace Go.Proofs.YtnomkooikbhgmaaGreatDoor
open Go Go.Vm
structure Pl where
 a:Int
 b:Int
 eg:Bool
 allow:List Bx
structure PlIn (t:Tp) (x:Pl):Prop where
 a0:0<=x.a
 a1:x.a<t.edges.length
 b0:0<=x.b
 b1:x.b<t.edges.length
 len:x.allow.length<=4096
theorem PlIn.eg{t:Tp}{x:Pl}(h:PlIn t x)(b:Bool):PlIn t {x with eg:=b}:=⟨h.a0,h.a1,h.b0,h.b1,h.len⟩
theorem aEo{k:Nat}{a b:List Bx}{st:List Int}(hs:st.Pairwise (· < ·))(hf:∀e,e∈st->FromB (4-k) a b e)(ha:Cn (k+1) a)(hb:Cn (k+1) b){x y:Bx}(hx:x∈a)(hy:y∈b):
  ((st.filter (inR (x.get (4-k)))).filter (inR (y.get (4-k)))).length<=1:=by
 have hsub:=qI (List.Nodup.sublist List.filter_sublist (uZ hs (inR (x.get (4-k))))) (l:=(st.filter (inR (x.get (4-k)))).filter (inR (y.get (4-k)))) (m:=[max (x.get (4-k)).lo (y.get (4-k)).lo]) fun e he=>by
  obtain⟨h1,h3⟩:=cI.1 he;obtain⟨h1,h2⟩:=cI.1 h1;rw[inR,aJ,aM,aM]at h2 h3;have hx2:=ha.2.1 x hx;have hy2:=hb.2.1 y hy;have hor:e=(x.get (4-k)).lo\/e=(y.get (4-k)).lo:=by
   rcases hf e h1 with h|h|h
   ·have:=(x.get (4-k)).l0;left;omega
   ·rcases Ip (d:=[]) ha hx (.inr (.inl h)) h2.1 h2.2 with h|⟨z,hz,_⟩
    ·left;exact h
    ·simp at hz
   ·rcases Ip (d:=[]) hb hy (.inr (.inl h)) h3.1 h3.2 with h|⟨z,hz,_⟩
    ·right;exact h
    ·simp at hz
  have e1:e=max (x.get (4-k)).lo (y.get (4-k)).lo:=by omega
  rw[e1];simp
 simpa using hsub
theorem Z0:∀(k:Nat) (a b:List Bx),k<=5->Cn k a->Cn k b->(iX anB k a b).length<=a.length*b.length
 |0,a,b,_,_,_=>by
  rw[iX];split
  ·rename_i h;simp only[anB,aJ,eA,List.isEmpty_eq_false_iff]at h;have h1:=dH.2 h.1;have h2:=dH.2 h.2;exact Nat.mul_pos h1 h2
  ·exact aO _
 |k+1,a,b,hk,ha,hb=>by
  rw[lI,pD];refine bA (xX _ _ _) ?_;have hs:=(nT (lH (4-k) a b) (kA (4-k)).1).sorted;have hf:=tB (4-k) a b (iN (4-k));have h1:((jH (lH (4-k) a b) (iN (4-k))).map fun e=>(iM anB k a b e).length).sum<=((jH (lH (4-k) a b) (iN (4-k))).map fun e=>(atF (4-k) e a).length*(atF (4-k) e b).length).sum:=Ey fun e _=>
   Z0 k (atF (4-k) e a) (atF (4-k) e b) zo (ha.2.2 e) (hb.2.2 e)
  have h4:=Dd (f:=4-k) (st:=jH (lH (4-k) a b) (iN (4-k))) (N:=1) (a:=a) (b:=b) fun x hx y hy=>aEo hs hf ha hb hx hy;rw[fV]at h4;exact bA h1 h4
theorem aAi{w:Bx}:∀(k:Nat),k<=5->w.ok->Cn k [w]
 |0,_,_=>aK _
 |k+1,hk,hw=>by
  refine⟨fun x hx y hy=>?_,fun x hx=>?_,fun v=>?_⟩
  ·rw[aW.1 hx,aW.1 hy];exact .inl rfl
  ·rw[aW.1 hx];exact(Ox hw (4-k) zo).1
  ·rw[atF,fA];split
   ·exact aAi k zo hw
   ·exact Cn.nil k
theorem Z1:∀(k:Nat) (a:List Bx),k<=5->Cn k a->(iX orB k a []).length<=a.length
 |0,a,_,_=>by
  rw[iX];split
  ·rename_i h;simp only[orB,bR,eA,List.isEmpty_eq_false_iff,List.isEmpty_nil,ne_eq,not_true_eq_false,or_false]at h;exact dH.2 (by simpa using h)
  ·exact aO _
 |k+1,a,hk,ha=>by
  rw[lI,pD];refine bA (xX _ _ _) ?_;have hs:=(nT (lH (4-k) a []) (kA (4-k)).1).sorted;have hf:=tB (4-k) a [] (iN (4-k));have h1:((jH (lH (4-k) a []) (iN (4-k))).map fun e=>(iM orB k a [] e).length).sum<=((jH (lH (4-k) a []) (iN (4-k))).map fun e=>(atF (4-k) e a).length).sum:=Ey fun e _=>
   Z1 k (atF (4-k) e a) zo (ha.2.2 e)
  have h4:=sE (f:=4-k) (st:=jH (lH (4-k) a []) (iN (4-k))) (N:=1) (a:=a) fun x hx=>by
   have:=Nk hs hf ha hx;simpa using this
  rw[fV]at h4;exact bA h1 h4
theorem aFp{w:Bx}(hw:w.ok):(mK [w]).2=0/\(mK [w]).1.length<=1/\Cn 5 (mK [w]).1:=by
 refine⟨?_,?_,(qB _).cn⟩
 all_goals
  unfold mK;split
  ·simp
  ·have e:rF [] w=iX orB 5 [w] []:=xT orB orB 5 _ _ _ _ (aK _) fun q hq=>by simp[orB,mV]
   have hl:(rF [] w).length<=1:=by rw[e];exact Z1 5 [w] (aK _) (aAi 5 (aK _) hw)
   rw[kR,kH,aH hw,aF zo,kH]<;>first|rfl|exact hl
theorem aAq{a:List Bx}{w:Bx}(ha:kN a=true)(hw:w.ok):(iF anB a [w]).2=0/\(iF anB a [w]).1.length<=a.length:=by
 obtain⟨h1,h2,h3⟩:=aFp hw;have hp:=rZ ha;have e:mK a=(a,0):=by rw[mK,aH ha]
 have hb:=Z0 5 a (mK [w]).1 (aK _) hp.cn h3;have hm:a.length*(mK [w]).1.length<=a.length*1:=dY _ h2;have hl:=hp.len;have hlim:¬4096<(iX anB 5 a (mK [w]).1).length:=by omega
 unfold iF;rw[e];simp only[ne_eq,not_true_eq_false,if_false,h1,rQ,uH,aF hlim,true_and];omega
/-! with no room -/
theorem Ul{es:List Ed}{w:Bx}(h:w∈qJ es):∃(i j:Nat) (a b:Ed),i≠j/\es[i]? =some a/\es[j]? =some b/\w=Zk a.pf b.pf:=by
 rw[qJ,lF,dP]at h;obtain⟨⟨a,i⟩,ha,h⟩:=h;rw[mN,bU]at h;obtain⟨⟨b,j⟩,hb,rfl⟩:=h;obtain⟨hb,hij⟩:=cI.1 hb;rw[dA]at ha hb;have ha':=List.mem_zipIdx_iff_getElem?.1 ha;have hb':=List.mem_zipIdx_iff_getElem?.1 hb;exact⟨i,j,a,b,by simpa using hij,ha',hb',rfl⟩
def wu(p:Int):Int:=IntKind.u32.wrap p
theorem aJc(p:Int):0<=wu p/\wu p<=4294967295:=by
 unfold wu;simp only[IntKind.wrap,IntKind.signed,IntKind.bits];simp;omega
def oX(y:It):Bx:=⟨fullB.r0,fullB.r1,⟨wu y.proto,wu y.proto,(aJc _).1,(aJc _).2,(aJc _).1,(aJc _).2⟩,fullB.r3,y.ports⟩
def aTP(t:Tp)(i:Nt):List Rg:=(t.edges.map fun e=>e.pf.rg)++i.grps.flatMap fun d=>d.items.map fun y=>y.pf.rg
def aKc(i:Nt):List Bx:=initS++i.svcs.flatMap fun d=>d.items.map oX
def AEq(t:Tp)(i:Nt)(v v':Int):Prop:=∀r,r∈aTP t i->inR r v=inR r v'
structure PEq (t:Tp) (i:Nt) (q q':Nat->Int):Prop where
 s:AEq t i (q 0) (q' 0)
 d:AEq t i (q 1) (q' 1)
 v:∀b,b∈aKc i->inK q 5 b=inK q' 5 b
def RespR(t:Tp)(i:Nt)(rs:List Rg):Prop:=∀v v',AEq t i v v'->has rs v=has rs v'
def Resp(t:Tp)(i:Nt)(s:List Bx):Prop:=∀q q',InP q->InP q'->PEq t i q q'->iZ q 5 s=iZ q' 5 s
section
variable {t:Tp} {i:Nt}
theorem RespR.nil:RespR t i []:=fun _ _ _=>rfl
theorem RespR.of{rs:List Rg}(h:∀r,r∈rs->r∈aTP t i):RespR t i rs:=fun v v' e=>by
 rw[bK,has_iff,has_iff];constructor
 ·rintro⟨r,hr,h1,h2⟩
  have:=e r (h r hr);simp only[inR]at this;rw[decide_eq_true h1,decide_eq_true h2]at this;have h3:=this.symm;simp only[Bool.and_self,aJ,aM]at h3;exact⟨r,hr,h3⟩
 ·rintro⟨r,hr,h1,h2⟩
  have:=e r (h r hr);simp only[inR]at this;rw[decide_eq_true h1,decide_eq_true h2]at this;simp only[Bool.and_self,aJ,aM]at this;exact⟨r,hr,this⟩
theorem RespR.has{rs out:List Rg}(h:RespR t i rs)(ho:∀v,has out v=has rs v):RespR t i out:=fun v v' e=>by rw[ho,ho,h v v' e]
theorem Resp.nil:Resp t i []:=fun _ _ _ _ _=>rfl
theorem Resp.any{l:List Bx}(h:∀b,b∈l->∀q q',InP q->InP q'->PEq t i q q'->inK q 5 b=inK q' 5 b):Resp t i l:=fun q q' hq hq' e=>by
 rw[bK,memK_iff,memK_iff];constructor
 ·rintro⟨b,hb,h1⟩;exact⟨b,hb,by rw[<-h b hb q q' hq hq' e];exact h1⟩
 ·rintro⟨b,hb,h1⟩;exact⟨b,hb,by rw[h b hb q q' hq hq' e];exact h1⟩
theorem yD{p:Nat->Int}(hp:InP p):∀(l s:List Bx),(kH s l).2=0->iZ p 5 (kH s l).1=(iZ p 5 s||iZ p 5 (jN l))
 |[],s,_=>by rw[kH];simp[jN,mV]
 |b::l,s,h=>by
  rw[kH]at h⊢;rw[Mx];split at h
  ·rename_i ho;rw[aH ho,aH ho];split at h
   ·cases h
   ·rename_i hl;rw[aF hl,yD hp l _ h,rF,oJ orB hp 5 _ _ (aK _)];have e:iZ p 5 [b]=inK p 5 b:=by simp[iZ]
    have e2:iZ p 5 (b::jN l)=(inK p 5 b||iZ p 5 (jN l)):=rfl;rw[e,e2,orB,Bool.or_assoc]
  ·rename_i ho;rw[aF ho,aF ho];exact yD hp l s h
theorem zU:∀(l s:List Bx),(kH s l).2≠0->(kH s l).1=[]
 |[],s,h=>absurd rfl h
 |b::l,s,h=>by
  rw[kH]at h⊢;split at h
  ·rename_i ho;rw[aH ho];split at h
   ·rename_i hl;rw[aH hl]
   ·rename_i hl;rw[aF hl];exact zU l _ h
  ·rename_i ho;rw[aF ho];exact zU l s h
theorem Resp.make{l:List Bx}(h:Resp t i (jN l)):Resp t i (kR l).1:=fun q q' hq hq' e=>by
 by_cases he:(kR l).2=0
 ·rw[kR,yD hq l [] he,yD hq' l [] he,mV,mV,h q q' hq hq' e]
 ·rw[kR,zU l [] he,mV,mV]
theorem Resp.giv{l:List Bx}(h:Resp t i (jN l)):Resp t i (mK l).1:=by
 unfold mK;split
 ·rename_i hs;rw[H0 (oT hs)]at h;exact h
 ·exact h.make
theorem Resp.giv_set{l:List Bx}(hs:kN l=true)(h:Resp t i l):Resp t i (mK l).1:=by
 rw[mK,aH hs];exact h
theorem Resp.combG{op:Bool->Bool->Bool}{a b:List Bx}(ha:Resp t i (mK a).1)(hb:Resp t i (mK b).1):Resp t i (iF op a b).1:=by
 unfold iF;split
 ·exact Resp.nil
 ·split
  ·exact Resp.nil
  ·simp only[rQ];split
   ·exact Resp.nil
   ·intro q q' hq hq' e;rw[oJ op hq 5 _ _ (aK _),oJ op hq' 5 _ _ (aK _),ha q q' hq hq' e,hb q q' hq hq' e]
theorem Resp.vld{l:List Bx}(h:∀b,b∈l->∀q q',InP q->InP q'->PEq t i q q'->inK q 5 b=inK q' 5 b):Resp t i (jN l):=Resp.any fun b hb=>h b (cI.1 hb).1
theorem Resp.init:Resp t i initS:=Resp.any fun b hb q q' _ _ e=>e.v b (cM _ hb)
theorem Resp.hdr{y:It}(h:∃d,d∈i.svcs/\y∈d.items):Resp t i (iF anB initS [oX y]).1:=by
 obtain⟨d,hd,hy⟩:=h;refine Resp.combG (Resp.init.giv_set wT) (Resp.giv (Resp.vld fun b hb q q' _ _ e=>?_));rw[aW.1 hb];exact e.v _ (fC _ (dP.2 ⟨d,hd,bU.2 ⟨y,hy,rfl⟩⟩))
def rL(r s:Rg):Bx:=⟨r,s,fullB.r2,fullB.r3,fullB.r4⟩
theorem Wi{r s:Rg}{q:Nat->Int}(hq:InP q):inK q 5 (rL r s)=(inR r (q 0)&&inR s (q 1)):=by
 have h2:=hq 2;have h3:=hq 3;have h4:=hq 4;have e2:fullB.r2.lo=0/\fullB.r2.hi=255:=by decide
 have e3:fullB.r3.lo=0/\fullB.r3.hi=65535:=by decide
 have e4:fullB.r4.lo=0/\fullB.r4.hi=65535:=by decide
 have t2:iN 2=255:=rfl;have t3:iN 3=65535:=rfl;have t4:iN 4=65535:=rfl;simp only[inK,inR,Bx.get,rL,dT,Nat.reduceSub,eY];rw[show decide (fullB.r2.lo<=q 2)=true from decide_eq_true zo,show decide (q 2<=fullB.r2.hi)=true from decide_eq_true zo,show decide (fullB.r3.lo<=q 3)=true from decide_eq_true zo,show decide (q 3<=fullB.r3.hi)=true from decide_eq_true zo,show decide (fullB.r4.lo<=q 4)=true from decide_eq_true zo,show decide (q 4<=fullB.r4.hi)=true from decide_eq_true zo];simp
def kZ(a b:List Rg):List Bx:=a.flatMap fun r=>b.map fun s=>rL r s
theorem Resp.real:Resp t i (oD t).1:=by
 unfold oD;split
 ·exact Resp.nil
 ·refine Resp.combG (Resp.giv_set (pA _) (Resp.make (Resp.vld fun b hb q q' hq hq' e=>?_))) (Resp.init.giv_set wT);obtain⟨k,j,x,y,_,hx,hy,rfl⟩:=Ul hb;have e1:=e.s x.pf.rg (cM _ (bU.2 ⟨x,aI hx,rfl⟩));have e2:=e.d y.pf.rg (cM _ (bU.2 ⟨y,aI hy,rfl⟩));have hw:Zk x.pf y.pf=rL x.pf.rg y.pf.rg:=rfl;rw[hw,Wi hq,Wi hq',e1,e2]
end
abbrev vN(n:Nat):AV:=.v (.int .i64 (n:Int))
theorem K6(l:List Nat)(n:Nat)(hl:l.length<=1000000){K:KT}(hK:K (.sb (decide (n∈l))) []):AC 294 [.lst (l.map vN),.v (.int .i64 n)] [] K:=by
 refine gP (aCk rfl rfl ?_);(repeat' ((conv=>whnf);first|refine zG ?_|apply zA|intro h|exact zT));all_goals conv=>whnf
 refine gM Nat (fun i=>⟨0,[],[(0,.lst (l.map vN)),(1,.v (.int .i64 n)),(5,.v (.int .i64 i))]⟩) (fun i=>i<=l.length/\∀(k:Nat) x,k<i->l[k]? =some x->¬x=n) (fun i=>l.length-i) 0 ⟨aO _,fun k x h=>absurd h (bC _)⟩ ?_ ?_
 ·exact leA
 intro i ⟨hi,hin⟩;rcases aC i l.length with hil|hil
 ·obtain⟨x,hx⟩:=gex hil;(repeat' ((conv=>whnf);first|(with_reducible first|refine hZ hil ?_|refine hU hx ?_)|refine zG ?_|apply zA|intro h|exact zT));all_goals conv=>whnf
  all_goals first
   |exact jU hK (decide_eq_true (by rw[show n=x by omega];exact aI hx))
   |(refine⟨i+1,⟨hil,iD hx zo hin⟩,by omega,?_⟩
     rw[aN,aL];exact leA)
 ·(repeat' ((conv=>whnf);first|refine zG ?_|apply zA|intro h|exact zT));all_goals conv=>whnf
  refine iL hK (decide_eq_false fun hm=>?_);obtain⟨k,hk⟩:=bM.1 hm;exact iC hil hin k n hk rfl
theorem My{p:Int}{K:Int->Prop}(h:K (wu p)):Wr .u32 p K:=Wr.intro rfl h
theorem aQa(x:It){K:KT}(hK:K (iE (iF anB initS [oX x]).1) []):AC 180 [kM x] [] K:=by
 have hq:∀{K:KT},K (.tup [iE (iF anB initS [oX x]).1,.v (.int .i64 (iF anB initS [oX x]).2)]) []->AC 39 [iE initS,.lst [.agg [.v (.int .u32 fullB.r0.lo),.v (.int .u32 fullB.r0.hi),.v (.int .u32 fullB.r1.lo),.v (.int .u32 fullB.r1.hi),.v (.int .u32 (wu x.proto)),.v (.int .u32 (wu x.proto)),.v (.int .u32 fullB.r3.lo),.v (.int .u32 fullB.r3.hi),.v (.int .u32 x.ports.lo),.v (.int .u32 x.ports.hi)]]] [] K:=fun {K} h=>@aAv initS [oX x] zd zx K h;refine aCl rfl rfl ?_;(repeat' ((conv=>whnf);first|(with_reducible refine Nn ?_)|(refine kP zd ?_)|(with_reducible first|refine My ?_|refine Vr ?_)|(refine iP (by rfl) ?_)|(with_reducible refine hq ?_)|refine zG ?_|apply zA|intro h|exact zT));all_goals conv=>whnf
 all_goals exact hK
def aGu(b:UInt8):Bool:=Nat.ble 97 b.toNat&&Nat.ble b.toNat 122
def aGt(b:UInt8):Bool:=aGu b||(Nat.ble 48 b.toNat&&Nat.ble b.toNat 57)||Nat.beq b.toNat 45||Nat.beq b.toNat 95
def uI(l:List UInt8):Bool:=match l with
 |[]=>false
 |a::r=>aGu a&&(r.all aGt&&(Nat.ble r.length 23&& !(l==[97,110,121])))
theorem L2{b:UInt8}(h:aGu b=true):nmL (b.toNat:Int):=by
 simp only[aGu,aJ]at h;have h1:=bY h.1;have h2:=bY h.2;unfold nmL;omega
theorem L1{b:UInt8}(h:aGt b=true):nmC (b.toNat:Int):=by
 simp only[aGt,bR,aJ]at h;unfold nmC;rcases h with((h|⟨h1,h2⟩)|h)|h
 ·have:=L2 h;unfold nmL at this;omega
 ·have h1:=bY h1;have h2:=bY h2;omega
 ·have:=aX h;omega
 ·have:=aX h;omega
theorem Un(l:List UInt8)(h:uI l=true):nQ ⟨⟨l⟩⟩:=by
 cases l with
 |nil=>cases h
 |cons a r=>
  simp only[uI,aJ,bP,eA]at h;obtain⟨h1,h2,h3,h4⟩:=h;have h3:=bY h3;have hget:∀(i:Nat) b,(⟨⟨a::r⟩⟩:ByteArray)[i]? =some b->(a::r)[i]? =some b:=by
   intro i b hb;by_cases h:i<(⟨⟨a::r⟩⟩:ByteArray).size
   ·rw[getElem?_pos _ i h]at hb;have h':i<(a::r).length:=h;rw[aE h'];exact hb
   ·rw[getElem?_neg _ i h]at hb;cases hb
  refine⟨?_,?_,?_,fun b hb=>?_,fun i b hb=>?_⟩
  ·rw[ByteArray.toList_eq,ByteArray.toList_eq];rfl
  ·show(((a::r).length:Nat):Int)<=24;simp;omega
  ·rw[ByteArray.toList_eq,ByteArray.toList_eq];exact h4
  ·have:=hget 0 b hb;simp at this;subst this;exact L2 h1
  ·have:=hget i b hb;cases i with
   |zero=>simp at this;subst this;exact L1 (by simp[aGt,h1])
   |succ i=>exact L1 (h2 b (aI (by simpa using this)))
theorem nS(a b:ByteArray):sEq a b=(a.data.toList==b.data.toList):=by rw[sEq,ByteArray.toList_eq,ByteArray.toList_eq]
theorem mM{s:ByteArray}(h:uI s.data.toList=true):nQ s:=by
 obtain⟨⟨l⟩⟩:=s;exact Un l h
end Go.Proofs.YtnomkooikbhgmaaGreatDoor
