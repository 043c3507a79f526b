/- Lemmas. -/
import Derived.Test.YtnomkooikbhgmaaGreatDoorProg
import Derived.Test.YtnomkooikbhgmaaGreatDoorK24
set_option linter.unusedVariables false
set_option linter.unusedSimpArgs false
set_option maxRecDepth 100000
set_option maxHeartbeats 4000000
noncomputable section
namespace Go.Proofs.YtnomkooikbhgmaaGreatDoor
open Go Go.Vm
theorem Ht{d:Nat}(hd:d<7)(v:Int):has [mkR (1440*(d:Int)) (1440*d+1439)] v=(decide (1440*(d:Int)<=v)&&decide (v<=1440*(d:Int)+1439)):=by
 have m1:(mkR (1440*(d:Int)) (1440*d+1439)).lo=1440*d:=kC zo zo zo zo;have m2:(mkR (1440*(d:Int)) (1440*d+1439)).hi=1440*d+1439:=kO zo zo zo zo;have e:has [mkR (1440*(d:Int)) (1440*d+1439)] v=(decide ((mkR (1440*(d:Int)) (1440*d+1439)).lo<=v)&&decide (v<=(mkR (1440*(d:Int)) (1440*d+1439)).hi)):=by simp[has]
 rw[e,m1,m2]
theorem D2(l:List Rg){d:Nat}(hd:d<7):∃c,jC c/\∀v,has c v=(has l v&&(decide (1440*(d:Int)<=v)&&decide (v<=1440*(d:Int)+1439))):=by
 obtain⟨x,hx,ex⟩:=Pk l [mkR (1440*(d:Int)) (1440*d+1439)];obtain⟨y,hy,ey⟩:=Pk l x;refine⟨y,hy,fun v=>?_⟩;rw[ey,ex,Ht hd];cases has l v<;>cases (decide (1440*(d:Int)<=v)&&decide (v<=1440*(d:Int)+1439))<;>rfl
theorem aEP{l:List Rg}(hc:jC l)(ht:∀r,r∈l->r.hi<=10079)(hn:l≠[]):1<=uT l 7:=by
 obtain⟨r,hr⟩:=List.exists_mem_of_ne_nil _ hn;have h1:=hc.1 r hr;have h2:=ht r hr;have h0:=r.l0;have hd:(r.lo/1440).toNat<7:=by omega
 have hx:wI l (r.lo/1440).toNat≠[]:=by
  intro e;have:=(Fa (D2 l hd)).2 r.lo;rw[show uR (fun v=>has l v&&(decide (1440*(((r.lo/1440).toNat:Nat):Int)<=v)&&decide (v<=1440*(((r.lo/1440).toNat:Nat):Int)+1439)))=wI l (r.lo/1440).toNat from rfl,e,oS,has_iff.2 ⟨r,hr,cC _,h1⟩,decide_eq_true zo,decide_eq_true zo]at this;cases this
 have hl:=dH.2 hx;have:=Ua (f:=fun d=>(wI l d).length) (dJ.2 hd);unfold uT;omega
def zO(l:List Rg):Nat:=if l=[]then 1 else 3*uT l 7-1
open Classical in
def I3(l:List Rg):Nat:=if jC l/\∀r,r∈l->r.hi<=10079 then zO l else 0
theorem aLq(l:List Rg)(hl:l.length<=4000){K:KT}(hK:∀ss:List ByteArray,ss.length=I3 l->K (.lst (ss.map mU)) []):AC 173 [iH l] [] K:=by
 refine gQ (aCA rfl rfl ?_);(repeat' ((conv=>whnf);first|(with_reducible refine aJl l zo fun s hs=>?_)|(refine iP (by rfl) ?_)|refine zG ?_|apply zA|intro h|exact zT));all_goals conv=>whnf
 all_goals first
  |exact⟨_,gS,hK [] (by rw[I3,aF (fun hh=>by have:=hs.2 hh;simp_all)];rfl)⟩
  |exact⟨_,gO,hK [⟨#[110,101,118,101,114]⟩] (by
    have hl0:l=[]:=cG.1 (by simp only[aA]at*;omega);rw[I3,aH (hs.1 (by simp_all)),zO,aH hl0];rfl)⟩
  |skip
 have hv:jC l/\∀r,r∈l->r.hi<=10079:=hs.1 (by simp_all);have hne:l≠[]:=fun e=>by subst e;simp_all
 rw[I3,aH hv,zO,aF hne]at hK;refine gM (Nat×List ByteArray) (fun g=>⟨1,[(0,.arr 1 (g.2.map mU))],[(0,iH l),(3,.os 0 1 0 g.2.length),(4,.v (.int .i64 g.1))]⟩)
  (fun g=>g.1<=7/\g.2.length<=40000*g.1/\g.2.length=3*uT l g.1-1) (fun g=>7-g.1) (0,[]) ⟨aO _,aO _,rfl⟩ ?_ ?_
 ·exact leA
 rintro⟨d,ss⟩ ⟨hd,hss,hsn⟩
 simp only at hd hss hsn⊢;rcases aC d 7 with hd7|hd7
 ·have hint:∀{K:KT},(∀out,jC out->(∀v,has out v=(has l v&&has [mkR (1440*d) (1440*d+1439)] v))->out.length<=2*(l.length+1)+1->K (iH out) [])->AC 241 [iH l,.lst [jR (mkR (1440*d) (1440*d+1439))]] [] K:=fun h=>c26 l [mkR (1440*d) (1440*d+1439)] zo zx h;have m1:(mkR (1440*(d:Int)) (1440*d+1439)).lo=1440*d:=kC zo zo zo zo;have m2:(mkR (1440*(d:Int)) (1440*d+1439)).hi=1440*d+1439:=kO zo zo zo zo;have hint2:∀{K:KT},(∀out,jC out->(∀v,has out v=(has l v&&has [mkR (1440*d) (1440*d+1439)] v))->out.length<=2*(l.length+1)+1->K (iH out) [])->AC 241 [iH l,.lst [.agg [.v (.int .u32 (1440*d)),.v (.int .u32 (1440*d+1439))]]] [] K:=fun h=>by
   have:=hint h;simp only[jR,m1,m2]at this;exact this
  (repeat' ((conv=>whnf);first|(with_reducible first|refine jB rfl zo zo ?_|refine xO rfl zo zo ?_)|(refine iP (by rfl) ?_)|(with_reducible refine hint2 fun out ho hh hn=>?_)|refine zG ?_|apply zA|intro h|exact zT));all_goals conv=>whnf
  have hday:wI l d=out:=N0 ho fun v=>by
   rw[hh v];rw[Ht hd7]
  have hcs:=K8 l d;rw[hday]at hcs;refine gM (Nat×List ByteArray) (fun g=>⟨1,[(0,.arr 1 (g.2.map mU))],[(0,iH l),(3,.os 0 1 0 g.2.length),(4,.v (.int .i64 d)),(5,.v (.int .u32 (1440*d))),(6,iH out),(7,.v (.int .i64 g.1))]⟩)
   (fun g=>g.1<=out.length/\g.2.length<=ss.length+3*g.1/\g.2.length=3*(uT l d+g.1)-1) (fun g=>out.length-g.1) (0,ss) ⟨aO _,by simp only;omega,by simp only;omega⟩ ?_ ?_
  ·exact leA
  rintro⟨i,st⟩ ⟨hi,hst,hstn⟩
  simp only at hi hst hstn⊢;rcases aC i out.length with hil|hil
  ·obtain⟨r,hr⟩:=gex hil;have hrm:=aI hr;have hle:=Qb ho hrm;have hb:∀v,r.lo<=v->v<=r.hi->1440*(d:Int)<=v/\v<=1440*d+1439:=fun v h1 h2=>by
    have h3:has out v=true:=has_iff.2 ⟨r,hrm,h1,h2⟩;rw[hh]at h3;simp only[aJ]at h3;obtain⟨q,hq,q1,q2⟩:=has_iff.1 h3.2;simp only[aW]at hq;subst hq;rw[m1]at q1;rw[m2]at q2;exact⟨q1,q2⟩
   have hb1:=hb r.lo (cC _) hle;have hb2:=hb r.hi hle (cC _);have hT:∀(v:Int),0<=v->v<=2000->∀{K:KT},(∀s:ByteArray,s.size<=10000->K (.v (.string s)) [])->AC 243 [.v (.int .i64 v)] [] K:=fun v v0 v1 K h=>by
    obtain⟨n,rfl⟩:=dS v0;exact aKD n zo fun s hs=>h s zo
   (repeat' ((conv=>whnf);first|refine zG ?_|apply zA|intro h|exact zT));all_goals conv=>whnf
   refine gY (List ByteArray) (fun g=>⟨1,[(0,.arr 1 (g.map mU))],[(0,iH l),(3,.os 0 1 0 g.length),(4,.v (.int .i64 d)),(5,.v (.int .u32 (1440*d))),(6,iH out),(7,.v (.int .i64 i))]⟩) (fun g=>g.length<=st.length+1/\g.length=3*(uT l d+i)) ?_ ?_
   ·(repeat' ((conv=>whnf);first|refine zG ?_|apply zA|intro h|exact zT));all_goals conv=>whnf
    ·refine⟨st++[⟨#[44]⟩],⟨by simp,by simp only[aD,aB,aG];omega⟩,?_⟩;simp only[aQ,aD,aR,bL,aB,aG];exact leA
    ·refine⟨st,⟨by omega,by omega⟩,?_⟩;exact leA
   rintro su ⟨hsu,hsun⟩
   have z1:(⟨#[45]⟩:ByteArray).size=1:=rfl;have hd0:d<dayL.length:=hd7;(repeat' ((conv=>whnf);first|(with_reducible first|refine aAr ?_|refine hZ hd0 ?_|refine iB hd0 fun c hc=>?_|refine hZ hil ?_|refine hU hr ?_|refine xO rfl zo zo ?_|refine jB rfl zo zo ?_|refine hT _ zo zo fun s hs=>?_|refine Ob.intro (by(try simp only[ByteArray.size_append]);omega) ?_)|refine zG ?_|apply zA|intro h|exact zT));all_goals conv=>whnf
   rename_i q1 q2 q3 sA hsA;refine⟨(i+1,su++[c,sA++⟨#[45]⟩++s]),⟨by simp only;omega,by simp only[aD,aB,aG];omega,by simp only[aD,aB,aG];omega⟩,by simp only;omega,?_⟩;simp only[aQ,aD,aR,bL,aB,aG,aN,aL];exact leA
  ·(repeat' ((conv=>whnf);first|refine zG ?_|apply zA|intro h|exact zT));all_goals conv=>whnf
   refine⟨(d+1,st),⟨by simp only;omega,by simp only;omega,by simp only;omega⟩,by simp only;omega,?_⟩;rw[show(((d+1,st):Nat×List ByteArray).1:Int)=(d:Int)+1 from by simp only;omega];exact leA
 ·(repeat' ((conv=>whnf);first|(with_reducible refine iP (aA ..) ?_)|refine zG ?_|apply zA|intro h|exact zT));all_goals conv=>whnf
  exact⟨_,gO,hK ss (by rw[hsn,show d=7 by omega])⟩
theorem H1{l:List Rg}:WinOk l↔(jC l/\∀r,r∈l->r.hi<=10079)/\zO l<=47:=by
 constructor
 ·intro h;refine⟨⟨h.can,h.top⟩,?_⟩;have:=h.few;unfold zO;split<;>omega
 ·rintro⟨⟨h1,h2⟩,h3⟩
  refine⟨h1,h2,?_⟩;unfold zO at h3;by_cases hl:l=[]
  ·subst hl;have e:∀d,wI [] d=[]:=fun d=>N0 rT fun v=>by rw[oS];rfl
   unfold uT;simp only[e,aG];decide
  ·rw[aF hl]at h3;omega
theorem aRf(l:List Rg)(hl:l.length<=4000){K:KT}(hK:K (.sb (Zl l)) []):AC 89 [iH l] [] K:=by
 refine gP (aCt rfl rfl ?_);(repeat' ((conv=>whnf);first|(with_reducible first|refine aJl l zo fun s hs=>?_|refine aLq l hl fun ss hss=>?_)|refine zG ?_|apply zA|intro h|exact zT));all_goals conv=>whnf
 ·refine jP hK ?_;rw[I3,aH (hs.1 h)]at hss;rw[bK,winB_iff,H1,aM,aA];have:=hs.1 h;constructor
  ·rintro⟨_,h2⟩;omega
  ·intro h2;exact⟨this,by omega⟩
 ·refine iL hK ?_;rw[cB,ne_eq,winB_iff,H1]
  rintro⟨h1,_⟩
  rw[hs.2 h1]at h;cases h
theorem aRe(s:ByteArray){K:KT}(hK:K (.sb (oH s)) []):AC 174 [.v (.string s)] [] K:=by
 refine gP (aCr rfl rfl ?_);(repeat' ((conv=>whnf);first|(with_reducible refine wG _ ?_)|refine zG ?_|apply zA|intro h|exact zT));all_goals conv=>whnf
 ·exact jU hK (by unfold oH sEq;simp_all)
 ·exact jP hK (by unfold oH sEq;simp_all)
theorem aLn(n:Int){K:KT}(hK:K (.sb (ptB n)) []):AC 91 [.v (.int .i64 n)] [] K:=by
 refine gP (Ys rfl rfl ?_);(repeat' ((conv=>whnf);first|refine zG ?_|apply zA|intro h|exact zT));all_goals conv=>whnf
 ·exact jP hK (by unfold ptB;simp_all)
 ·exact iL hK (by unfold ptB;rw[decide_eq_false zo];rfl)
theorem V5(lo hi n:Int){K:KT}(hK:K (.sb (decide (n<=lo/\lo<=hi/\hi<=65535))) []):AC 92 [.agg [.v (.int .u32 lo),.v (.int .u32 hi)],.v (.int .u32 n)] [] K:=by
 refine gP (Ut rfl rfl ?_);(repeat' ((conv=>whnf);first|refine zG ?_|apply zA|intro h|exact zT));all_goals conv=>whnf
 all_goals first
  |exact jP hK (by rw[bK];simp_all)
  |exact iL hK (decide_eq_false zo)
theorem Iv(l:List Df)(s:ByteArray)(hl:l.length<=1000){K:KT}(hK:K (.v (.int .i64 (Fh l s))) []):AC 170 [.lst (l.map iG),.v (.string s)] [] K:=by
 unfold Fh at hK;refine Yq rfl rfl ?_;(repeat' ((conv=>whnf);first|refine zG ?_|apply zA|intro h|exact zT));all_goals conv=>whnf
 refine gM Nat (fun i=>⟨0,[],[(0,.lst (l.map iG)),(1,.v (.string s)),(5,.v (.int .i64 i))]⟩) (fun i=>i<=l.length/\∀(j:Nat) y,j<i->l[j]? =some y->sEq y.name s=false) (fun i=>l.length-i) 0 ⟨aO _,fun i y hi=>absurd hi (bC _)⟩ ?_ ?_
 ·exact leA
 intro i ⟨hi,hinv⟩;rcases aC i l.length with hil|hil
 ·obtain⟨x,hx⟩:=gex hil;(repeat' ((conv=>whnf);first|(with_reducible first|refine hZ hil ?_|refine hU hx ?_)|refine zG ?_|apply zA|intro h|exact zT));all_goals conv=>whnf
  ·rw[jQ (p:=fun d=>sEq d.name s) hx (show sEq x.name s=true from h) hinv]at hK;exact hK
  ·refine⟨i+1,⟨hil,jY (p:=fun d:Df=>sEq d.name s) hx h hinv⟩,by omega,?_⟩;rw[aN,aL];exact leA
 ·(repeat' ((conv=>whnf);first|refine zG ?_|apply zA|intro h|exact zT));all_goals conv=>whnf
  rw[jS (p:=fun d=>sEq d.name s) (iC hil hinv)]at hK;exact hK
theorem Hq(l:List Wn)(s:ByteArray)(hl:l.length<=1000){K:KT}(hK:K (.v (.int .i64 (E6 l s))) []):AC 88 [.lst (l.map jD),.v (.string s)] [] K:=by
 unfold E6 at hK;refine Us rfl rfl ?_;(repeat' ((conv=>whnf);first|refine zG ?_|apply zA|intro h|exact zT));all_goals conv=>whnf
 refine gM Nat (fun i=>⟨0,[],[(0,.lst (l.map jD)),(1,.v (.string s)),(5,.v (.int .i64 i))]⟩) (fun i=>i<=l.length/\∀(j:Nat) y,j<i->l[j]? =some y->sEq y.name s=false) (fun i=>l.length-i) 0 ⟨aO _,fun i y hi=>absurd hi (bC _)⟩ ?_ ?_
 ·exact leA
 intro i ⟨hi,hinv⟩;rcases aC i l.length with hil|hil
 ·obtain⟨x,hx⟩:=gex hil;(repeat' ((conv=>whnf);first|(with_reducible first|refine hZ hil ?_|refine hU hx ?_)|refine zG ?_|apply zA|intro h|exact zT));all_goals conv=>whnf
  ·rw[jQ (p:=fun d=>sEq d.name s) hx (show sEq x.name s=true from h) hinv]at hK;exact hK
  ·refine⟨i+1,⟨hil,jY (p:=fun d:Wn=>sEq d.name s) hx h hinv⟩,by omega,?_⟩;rw[aN,aL];exact leA
 ·(repeat' ((conv=>whnf);first|refine zG ?_|apply zA|intro h|exact zT));all_goals conv=>whnf
  rw[jS (p:=fun d=>sEq d.name s) (iC hil hinv)]at hK;exact hK
theorem aBf{k k' pa pb qa qb pr pr' lo hi lo' hi':Int}{n n':ByteArray}{K:Bool->Prop}(hk:K (decide (k=k')&&(sEq n n'&&decide (pa=qa/\pb=qb/\pr=pr'/\lo=lo'/\hi=hi')))):EqV Tryz.prog 98 [.v (.int .i64 k),.v (.string n),.v (.int .u32 pa),.v (.int .i64 pb),.v (.int .i64 pr),.v (.int .u32 lo),.v (.int .u32 hi)]
  [.v (.int .i64 k'),.v (.string n'),.v (.int .u32 qa),.v (.int .i64 qb),.v (.int .i64 pr'),.v (.int .u32 lo'),.v (.int .u32 hi')] K:=by
 refine Ts (b:=(k==k'&&(n.toList==n'.toList&&((pa==qa&&(pb==qb&&true))&&(pr==pr'&&((lo==lo'&&(hi==hi'&&true))&&true)))))) rfl rfl zk zk ?_;have e:(k==k'&&(n.toList==n'.toList&&((pa==qa&&(pb==qb&&true))&&(pr==pr'&&((lo==lo'&&(hi==hi'&&true))&&true)))))=(decide (k=k')&&(sEq n n'&&decide (pa=qa/\pb=qb/\pr=pr'/\lo=lo'/\hi=hi'))):=by
  unfold sEq;rw[bK];simp only[aJ,beq_iff_eq,aM,and_true,and_assoc]
 rw[e];exact hk
theorem aBg{lo hi lo' hi':Int}{K:Bool->Prop}(hk:K (decide (lo=lo'/\hi=hi'))):EqV Tryz.prog 96 [.v (.int .u32 lo),.v (.int .u32 hi)] [.v (.int .u32 lo'),.v (.int .u32 hi')] K:=by
 refine Ts (b:=(lo==lo'&&(hi==hi'&&true))) rfl rfl zk zk ?_;have e:(lo==lo'&&(hi==hi'&&true))=decide (lo=lo'/\hi=hi'):=by
  rw[bK];simp only[aJ,beq_iff_eq,aM,and_true]
 rw[e];exact hk
theorem uN(s:ByteArray):sEq s s=true:=by unfold sEq;simp
theorem aLm(x:It)(g:Bool){K:KT}(hK:K (.sb (itB x g)) []):AC 171 [kM x,.sb g] [] K:=by
 refine gP (Yr rfl rfl ?_);have hs:=uN x.name;(repeat' ((conv=>whnf);first|(with_reducible first|refine wG _ ?_|refine Qk x.pf ?_|refine V5 _ _ _ ?_)|(refine aBf ?_)|(refine aBg ?_)|refine zG ?_|apply zA|intro h|exact zT));all_goals conv=>whnf
 all_goals first
  |refine jU hK ?_
  |refine iL hK ?_
  |refine jP hK ?_
 all_goals
  unfold itB;have hl0:=x.ports.l0;simp_all[itN,itP,itS,prB]
 all_goals first
  |omega
  |(rw[aF zo,aF zo];intros;omega)
def g21:Ctx:={N:=8}
abbrev aUI:=ofD g21 Tryz.func202
def g41:Ctx:={N:=9}
abbrev aUR:=ofD g41 Tryz.func263
def g42:Ctx:={N:=14}
abbrev aUS:=ofD g42 Tryz.func264
def g50:Ctx:={N:=19}
abbrev aUX:=ofD g50 Tryz.func299
def g47:Ctx:={N:=10}
abbrev aUU:=ofD g47 Tryz.func267
def g48:Ctx:={N:=20}
abbrev aUV:=ofD g48 Tryz.func268
def g54:Ctx:={N:=6}
abbrev aUZ:=ofD g54 Tryz.func302
theorem c42(lo hi v:Int){K:KT}(hK:K (.sb (decide (lo<=v)&&decide (v<=hi))) []):
  AC 264 [.agg [.v (.int .u32 lo),.v (.int .u32 hi)],.fp [.v (.int .u32 v)]] [] K:=by
 refine gP (aUS rfl rfl ?_)
 iterate 12 (all_goals((conv=>whnf);first|refine zG ?_|apply zA|intro h|exact zT|skip))
 ·refine .inr ⟨_,rfl,?_⟩;have h:lo<=v:=by assumption
  rw[decide_eq_true h,dQ]at hK;exact hK
 ·refine .inl ⟨_,rfl,?_⟩;have h:¬lo<=v:=by assumption
  rw[decide_eq_false h,eO]at hK;exact hK
theorem c50(l:List Rg)(v:Int)(hl:l.length<1000000){K:KT}(hK:∀z:Int,(0<=z↔has l v=true)->K (.v (.int .i64 z)) []):
  AC 299 [iH l,.fn (.func 264) [] [.fp [.v (.int .u32 v)]]] [] K:=by
 refine aUX rfl rfl ?_;(conv=>whnf)
 refine gM Nat (fun k=>⟨0,[],[(0,iH l),(1,.fn (.func 264) [] [.fp [.v (.int .u32 v)]]),(7,.v (.int .i64 (l.map jR).length)),(8,.v (.int .i64 k))]⟩) (fun k=>k<=l.length/\has (l.take k) v=false) (fun k=>l.length-k) 0 ?_ ?_ ?_
 ·exact⟨aO _,rfl⟩
 ·exact⟨[],rfl,⟨rfl,rfl,rfl,rfl,trivial⟩,trivial⟩
 ·intro k ⟨hk,hinv⟩;rcases aC k l.length with hkl|hkl
  ·obtain⟨r,hr⟩:=gex hkl
   iterate 6 (all_goals((conv=>whnf);first|(with_reducible first|refine hZ hkl ?_|refine hU hr ?_)|refine zG ?_|apply zA|intro h|exact zT|skip))
   refine c42 r.lo r.hi v ?_;have hs:=Q8 (v:=v) hr;rw[hinv,gL]at hs;generalize hb:(decide (r.lo<=v)&&decide (v<=r.hi))=b at hs⊢;(conv=>whnf)
   refine aPV (fun h=>?_) (fun h=>?_)
   ·(conv=>whnf)
    refine hK k (iff_of_true zo ?_);subst h;simp only[aJ,aM]at hb;exact Wh hr hb.1 hb.2
   ·iterate 6 (all_goals((conv=>whnf);first|refine zG ?_|apply zA|intro h|exact zT|skip))
    exact⟨k+1,⟨by omega,by rw[hs,h]⟩,by omega,⟨[],rfl,⟨rfl,rfl,rfl,rfl,trivial⟩,trivial⟩⟩
  ·iterate 6 (all_goals((conv=>whnf);first|refine zG ?_|apply zA|intro h|exact zT|skip))
   refine hK (-1) (iff_of_false zo ?_);rw[aU hkl]at hinv;rw[hinv];simp
theorem c41(l:List Rg)(v:Int)(hl:l.length<1000000){K:KT}(hK:K (.sb (has l v)) []):
  AC 263 [iH l,.fn (.func 264) [] [.fp [.v (.int .u32 v)]]] [] K:=by
 refine gP (aUR rfl rfl ?_);(conv=>whnf)
 refine c50 l v hl fun z hz=>?_;(conv=>whnf)
 refine .inr ⟨_,rfl,?_⟩;have e:decide (0<=z)=has l v:=by rw[bK,aM];exact hz
 rw[e];exact hK
theorem c21(l:List Rg)(v:Int)(hl:l.length<1000000){K:KT}(hK:K (.sb (has l v)) []):
  AC 202 [iH l,.v (.int .u32 v)] [] K:=by
 refine aUI rfl rfl ?_;(conv=>whnf)
 refine c41 l v hl ?_;(conv=>whnf)
 exact hK
theorem c54(x:Int){K:KT}(hK:K (.sb false) []):AC 302 [.v (.int .u32 x)] [] K:=by
 refine aUZ rfl rfl ?_
 iterate 4 (all_goals((conv=>whnf);first|refine zG ?_|apply zA|intro h|exact zT|skip))
 have e:(!decide (x=x))=false:=by simp
 unfold yP;rw[e];exact hK
def g39:Ctx:={N:=72,own:=oz [266],plan:=p1 13 (lo 16) (p1 14 (lp 14 [28]) pn),hints:=h1 2 [.virt 3 2,.virt 4 2] hn}
abbrev aUP:=ofD g39 Tryz.func206
def aJe:Prop:=∀(d:List Rg) (n:Nat),n=d.length->d.length<1000000->∀K:AV->List Vm.Obj->Prop,(∀d':List Rg,d'.Perm d->d'.Pairwise (fun r s=>r.lo<=s.lo)->K (.tup []) [.arr 2 (d'.map jR)])->
 AC 266 [.os 0 2 0 n,.fn (.func 267) [] []] [.arr 2 (d.map jR)] K
def mP(out:List Rg)(r:Rg):List Rg:=
 match out.getLast? with
 |some p=>if r.lo<=p.hi+1 then out.dropLast++[mkR p.lo (max p.hi r.hi)]else out++[r]
 |none=>[r]
theorem tP(out:List Rg)(r:Rg):(mP out r).length<=out.length+1:=by
 unfold mP;split
 ·split<;>simp
 ·simp
theorem Um{out:List Rg}{r:Rg}(hc:jC out)(hlo:∀p,p∈out->p.lo<=r.lo)(hr:r.lo<=r.hi):jC (mP out r)/\(∀v,has (mP out r) v=(has out v||has [r] v))/\∀p,p∈mP out r->p.lo<=r.lo:=by
 have b1:=r.l0;have b2:=r.l1;have b3:=r.h0;have b4:=r.h1;unfold mP;rcases cT out with hnil|⟨ini,p,hcat⟩
 ·subst hnil;refine⟨?_,fun v=>by simp[has],fun p hp=>by simp at hp;subst hp;exact cC _⟩;have:=kL rT hr (fun s hs=>by simp at hs);simpa using this
 ·rw[cU]at hcat;subst hcat;simp only[cS,cH,dN,dI];have p1:=p.l0;have p2:=p.l1;have p3:=p.h0;have p4:=p.h1;have hpw:=dM.1 hc.2;have hp1:=hc.1 p zx;have hp2:=hlo p zx;have hx:0<=max p.hi r.hi/\max p.hi r.hi<=4294967295:=by omega
  split
  ·rename_i he;have ci:jC ini:=⟨fun t ht=>hc.1 t (by simp[ht]),hpw.1⟩
   refine⟨kL ci (by rw[kC p1 p2 hx.1 hx.2,kO p1 p2 hx.1 hx.2];omega) (fun s hs=>by rw[kC p1 p2 hx.1 hx.2];exact hpw.2.2 s hs p zx),fun v=>?_,fun q hq=>?_⟩
   ·rw[nN,nN,tC,tC,tC,kC p1 p2 hx.1 hx.2,kO p1 p2 hx.1 hx.2,Bool.or_assoc]
    congr 1
    rw[bK];simp only[bR,aJ,aM];omega
   ·rcases aY.1 hq with hq|hq
    ·exact hlo q (by simp[hq])
    ·simp at hq;subst hq;rw[kC p1 p2 hx.1 hx.2];exact hp2
  ·rename_i he;refine⟨kL hc hr (fun s hs=>?_),fun v=>nN _ _ v,fun q hq=>?_⟩
   ·rcases aY.1 hs with hs|hs
    ·have:=hpw.2.2 s hs p zx;omega
    ·simp at hs;subst hs;omega
   ·rcases aY.1 hq with hq|hq
    ·exact hlo q hq
    ·simp at hq;subst hq;exact cC _
theorem I6:∀(d out:List Rg),jC out->(∀p,p∈out->∀r,r∈d->p.lo<=r.lo)->d.Pairwise (fun r s=>r.lo<=s.lo)->(∀r,r∈d->r.lo<=r.hi)->
  jC (d.foldl mP out)/\(∀v,has (d.foldl mP out) v=(has out v||has d v))/\(d.foldl mP out).length<=out.length+d.length
 |[],out,hc,_,_,_=>⟨hc,fun v=>by simp[has],by simp⟩
 |r::d,out,hc,hlo,hp,hok=>by
  have⟨hp1,hp2⟩:=bW.1 hp;obtain⟨h1,h2,h3⟩:=Um hc (fun p hpm=>hlo p hpm r zx) (hok r zx);obtain⟨g1,g2,g3⟩:=I6 d (mP out r) h1 (fun p hpm s hs=>Int.le_trans (h3 p hpm) (hp1 s hs)) hp2 (fun s hs=>hok s (by simp[hs]));refine⟨g1,fun v=>?_,?_⟩
  ·rw[eG,g2,h2,Bool.or_assoc,<-nN];rfl
  ·have:=tP out r;simp only[eG,aB];omega
def okR(r:Rg):Bool:=decide (r.lo<=r.hi)
theorem c39(hs:aJe)(l:List Rg)(hl:l.length<100000){K:KT}(hK:∀c,jC c->(∀v,has c v=has l v)->c.length<=l.length->K (iH c) []):AC 206 [iH l] [] K:=by
 refine aUP rfl rfl ?_;(conv=>whnf)
 refine gM Nat (fun k=>⟨2,[(0,.arr 2 (((l.take k).filter okR).map jR)),(1,.arr 2 [])],[(3,.os 0 2 0 ((l.take k).filter okR).length),(4,.os 1 2 0 0),(10,iH l),(11,.v (.int .i64 (l.map jR).length)),(12,.v (.int .i64 k))]⟩) (fun k=>k<=l.length) (fun k=>l.length-k) 0 ?_ ?_ ?_
 ·exact aO _
 ·exact⟨[(0,0),(1,1)],rfl,⟨rfl,rfl,rfl,rfl,rfl,trivial⟩,⟨rfl,rfl,trivial⟩⟩
 ·intro k hk;rcases aC k l.length with hkl|hkl
  ·obtain⟨r,hr⟩:=gex hkl;have b1:=r.l0;have b2:=r.l1;have b3:=r.h0;have b4:=r.h1;have e:(l.take (k+1)).filter okR=(l.take k).filter okR++(if r.lo<=r.hi then [r]else []):=by
    rw[bF,hr,eH,cZ];simp only[okR,fA,List.filter_nil,aM]
   have hlen:((l.take k).filter okR).length<=l.length:=bA (dK _ _) (by rw[aZ];omega)
   iterate 30 (all_goals((conv=>whnf);first|(with_reducible first|refine hZ hkl ?_|refine hU hr ?_)|refine zG ?_|apply zA|intro h|exact zT|skip))
   ·refine⟨k+1,by omega,by omega,?_⟩;rw[e,aH zp,aQ,aD];exact⟨[(0,4),(1,1)],rfl,⟨rfl,rfl,rfl,rfl,rfl,trivial⟩,⟨rfl,rfl,trivial⟩⟩
   ·refine⟨k+1,by omega,by omega,?_⟩;rw[e,aF zp,bI];exact⟨[(0,0),(1,1)],rfl,⟨rfl,rfl,rfl,rfl,rfl,trivial⟩,⟨rfl,rfl,trivial⟩⟩
  ·rw[aU hkl];have hlen:(l.filter okR).length<=l.length:=dK _ _
   iterate 6 (all_goals((conv=>whnf);first|(with_reducible refine hZ hkl ?_)|refine zG ?_|apply zA|intro h|exact zT|skip))
   refine hs (l.filter okR) _ rfl zo _ fun d hperm hsort=>?_;have hn:(l.filter okR).length=d.length:=hperm.length_eq.symm;rw[hn];(conv=>whnf)
   refine gM Nat (fun k=>⟨2,[(0,.arr 2 (d.map jR)),(1,.arr 2 (((d.take k).foldl mP []).map jR))],[(4,.os 1 2 0 ((d.take k).foldl mP []).length),(28,.os 0 2 0 d.length),(29,.v (.int .i64 d.length)),(30,.v (.int .i64 k))]⟩) (fun k=>k<=d.length/\((d.take k).foldl mP []).length<=k) (fun k=>d.length-k) 0 ?_ ?_ ?_
   ·exact⟨aO _,by simp⟩
   ·exact⟨[(0,0),(1,1)],rfl,⟨rfl,rfl,rfl,rfl,trivial⟩,⟨rfl,rfl,trivial⟩⟩
   ·intro k ⟨hk,hle⟩;rcases aC k d.length with hkl|hkl
    ·obtain⟨r,hr⟩:=gex hkl;have hr0:d[0+k]? =some r:=by rw[bD];exact hr
     have b1:=r.l0;have b2:=r.l1;have b3:=r.h0;have b4:=r.h1;have hs2:=vB (f:=mP) (b:=[]) hr;generalize hout:(d.take k).foldl mP []=out at hs2 hle⊢;have hj:(k:Int)<(d.length:Int):=by omega
     rcases cT out with hnil|⟨ini,p,hcat⟩
     ·subst hnil
      iterate 30 (all_goals((conv=>whnf);first|(with_reducible first|refine gU k rfl zo ?_|refine hU hr ?_|refine hU hr0 ?_)|refine zG ?_|apply zA|intro h|exact zT|skip))
      refine⟨k+1,⟨by omega,by rw[hs2];simp[mP]⟩,by omega,?_⟩;rw[hs2,show mP [] r=[r]from rfl];exact⟨[(0,0),(1,4)],rfl,⟨rfl,rfl,rfl,rfl,trivial⟩,⟨rfl,rfl,trivial⟩⟩
     ·rw[cU]at hcat;subst hcat;have p1:=p.l0;have p2:=p.l1;have p3:=p.h0;have p4:=p.h1;have hp:(ini++[p])[ini.length]? =some p:=by simp
      have hp0:(ini++[p])[0+ini.length]? =some p:=by simp
      have hi:((((ini++[p]).length:Nat):Int)-1=ini.length)/\ini.length<(ini++[p]).length:=by simp
      iterate 40 (all_goals((conv=>whnf);first|(with_reducible first|refine gU k rfl zo ?_|refine hU hr ?_|refine hU hr0 ?_|refine gU ini.length hi.1 hi.2 ?_|refine hU hp ?_|refine hU hp0 ?_)|refine zG ?_|apply zA|intro h|exact zT|skip))
      ·have e:mP (ini++[p]) r=ini++[mkR p.lo (max p.hi r.hi)]:=by
        simp only[mP,cS,cH,dN,dI];rw[aH zp]
       refine⟨k+1,⟨by omega,by rw[hs2];have:=tP (ini++[p]) r;omega⟩,by omega,?_⟩;rw[hs2,e,aQ,aR,bL,Du zo zo zo zo];have e2:(ini.map jR++[.agg [.v (.int .u32 p.lo),.v (.int .u32 (max p.hi r.hi))]])=((ini++[p]).map jR).set (0+ini.length) (.agg [.v (.int .u32 p.lo),.v (.int .u32 (max p.hi r.hi))]):=by
        rw[aQ,dZ _ _ zx];simp
       rw[e2,show(ini++[mkR p.lo (max p.hi r.hi)]).length=(ini++[p]).length by simp];exact⟨[(0,0),(1,1)],rfl,⟨rfl,rfl,rfl,rfl,trivial⟩,⟨rfl,rfl,trivial⟩⟩
      ·have e:mP (ini++[p]) r=ini++[p]++[r]:=by
        simp only[mP,cS,cH,dN,dI];rw[aF zp]
       refine⟨k+1,⟨by omega,by rw[hs2];have:=tP (ini++[p]) r;omega⟩,by omega,?_⟩;rw[hs2,e,aQ (l₁:=ini++[p]),show(ini++[p]++[r]).length=(ini++[p]).length+1 from by simp];exact⟨[(0,0),(1,4)],rfl,⟨rfl,rfl,rfl,rfl,trivial⟩,⟨rfl,rfl,trivial⟩⟩
    ·rw[aU hkl]at hle⊢
     iterate 8 (all_goals((conv=>whnf);first|refine zG ?_|apply zA|intro h|exact zT|skip))
     have hok:∀r,r∈d->r.lo<=r.hi:=fun r hr=>by
      have:=(cI.1 (hperm.subset hr)).2;simpa[okR]using this
     obtain⟨g1,g2,g3⟩:=I6 d [] rT (fun p hp=>by simp at hp) hsort hok;refine hK _ g1 (fun v=>?_) (by simp only[aG]at g3;omega);rw[g2,oS,gL,bK,has_iff,has_iff];constructor
     ·rintro⟨r,hr,h1,h2⟩
      exact⟨r,(cI.1 (hperm.subset hr)).1,h1,h2⟩
     ·rintro⟨r,hr,h1,h2⟩
      refine⟨r,hperm.symm.subset (cI.2 ⟨hr,?_⟩),h1,h2⟩;simp only[okR,aM];omega
def g49:Ctx:={N:=27,hints:=h1 6 [.virt 0 2] hn,res:=true}
abbrev aUW:=ofD g49 Tryz.func269
def g40:Ctx:={N:=36,own:=oz [269]}
abbrev aUQ:=ofD g40 Tryz.func207
def G9(x y:Int):Int:=if x<y then-1 else if y<x then 1 else 0
theorem c48(x y:Int){K:KT}(hK:K (.v (.int .i64 (G9 x y))) []):AC 268 [.v (.int .u32 x),.v (.int .u32 y)] [] K:=by
 refine aUV rfl rfl ?_
 iterate 20 (all_goals((conv=>whnf);first|(with_reducible refine c54 _ ?_)|refine zG ?_|apply zA|intro h|exact zT|skip))
 all_goals
  unfold G9 at hK
 ·rw[aH zp]at hK;exact hK
 ·rw[aF zp,aH zp]at hK;exact hK
 ·rw[aF zp,aF zp]at hK;exact hK
theorem c47(r s:Rg){K:KT}(hK:K (.v (.int .i64 (G9 r.lo s.lo))) []):AC 267 [.agg [.v (.int .u32 r.lo),.v (.int .u32 r.hi)],.agg [.v (.int .u32 s.lo),.v (.int .u32 s.hi)]] [] K:=by
 refine aUU rfl rfl ?_
 iterate 6 (all_goals((conv=>whnf);first|(with_reducible refine c48 _ _ ?_)|refine zG ?_|apply zA|intro h|exact zT|skip))
 exact hK
theorem aFO{n m:Nat}{c:AV}(hn:n<2000000)(hm:m<10000)(hc:c.cells.all AV.one=true):((List.replicate n c).length+96)*m<=140737488355328/\∀x,x∈List.replicate n c->x.cells.all AV.one=true:=by
 refine⟨?_,fun x hx=>by rw[eM hx];exact hc⟩;rw[List.length_replicate];have h1:(n+96)*m<=2000096*10000:=eJ zo zo;omega
theorem c49(n:Nat)(hn:n<2000000){K:KT}(hK:∀xs,K (.os 0 2 0 0) [.arr 2 xs]):AC 269 [.nils,.v (.int .i64 n)] [] K:=by
 refine aUW rfl rfl ?_
 iterate 20 (all_goals((conv=>whnf);first|(with_reducible first|refine gZ 0 0 rfl rfl zo zo ?_|refine gU n zo zo ?_|refine Ob.intro (aFO hn zd (by with_unfolding_all rfl)) ?_)|refine zG ?_|apply zA|intro h|exact zT|skip))
 ·exact hK _
 ·exact hK _
theorem c40(L:List (List Rg))(hL:L.length<1000)(hl:∀l,l∈L->l.length<1000){K:KT}(hK:K (iH L.flatten) []):AC 207 [.lst (L.map iH)] [] K:=by
 have sum_le:∀M:List (List Rg),(∀l,l∈M->l.length<1000)->M.flatten.length<=1000*M.length:=by
  intro M
  induction M with
  |nil=>intro _;simp
  |cons m M ih=>
   intro h;have h1:=h m zx;have h2:=ih fun l hl=>h l (by simp[hl]);simp only[eL,aD,aB];omega
 have next:∀{k:Nat} {l:List Rg},L[k]? =some l->(L.take (k+1)).flatten=(L.take k).flatten++l:=by
  intro k l h;rw[bF,h,eH,List.flatten_append];simp
 have bound:∀k,k<=L.length->(L.take k).flatten.length<=1000000:=by
  intro k hk;have:=sum_le (L.take k) fun l h=>hl l (cL h);rw[aZ]at this;omega
 refine aUQ rfl rfl ?_;(conv=>whnf)
 refine gM Nat (fun k=>⟨0,[],[(0,.lst (L.map iH)),(3,.v (.int .i64 ((L.take k).flatten.length:Int))),(9,.lst (L.map iH)),(10,.v (.int .i64 (L.map iH).length)),(11,.v (.int .i64 k))]⟩) (fun k=>k<=L.length) (fun k=>L.length-k) 0 ?_ ?_ ?_
 ·exact aO _
 ·exact⟨[],rfl,⟨rfl,rfl,rfl,rfl,rfl,trivial⟩,trivial⟩
 ·intro k hk;rcases aC k L.length with hkl|hkl
  ·obtain⟨l,hx⟩:=gex hkl;have hb:=bound k hk;have hll:=hl l (aI hx);have hn:=next hx
   have hlen:((L.take (k+1)).flatten.length:Int)=((L.take k).flatten.length:Int)+((l.map jR).length:Int):=by rw[hn,aD,aA];omega
   have hml:(l.map jR).length<1000:=by rw[aA];exact hll
   generalize (L.take k).flatten.length=n at hb hlen
   iterate 30 (all_goals((conv=>whnf);first|(with_reducible first|refine hZ hkl ?_|refine hU hx ?_)|refine zG ?_|apply zA|intro h|exact zT|skip))
   refine⟨k+1,by omega,by omega,?_⟩;rw[hlen];exact⟨[],rfl,⟨rfl,rfl,rfl,rfl,rfl,trivial⟩,trivial⟩
  ·have e:L.take k=L:=aU hkl;have hb:=bound k hk;rw[e]at hb⊢;(conv=>whnf)
   refine Z3 (by rw[aA];omega) ?_;(conv=>whnf)
   refine c49 L.flatten.length zo fun xs=>?_;(conv=>whnf)
   refine gM Nat (fun k=>⟨1,[(0,.arr 2 (if k=0 then xs else(L.take k).flatten.map jR))],[(6,.os 0 2 0 (L.take k).flatten.length),(25,.lst (L.map iH)),(26,.v (.int .i64 (L.map iH).length)),(27,.v (.int .i64 k))]⟩) (fun k=>k<=L.length) (fun k=>L.length-k) 0 ?_ ?_ ?_
   ·exact aO _
   ·exact⟨[(0,0)],rfl,⟨rfl,rfl,rfl,rfl,trivial⟩,⟨rfl,trivial⟩⟩
   ·intro k hk;have tk:((if k=0 then xs else(L.take k).flatten.map jR).drop 0).take (L.take k).flatten.length=(L.take k).flatten.map jR:=by
     by_cases h0:k=0
     ·subst h0;simp
     ·rw[aF h0,cA];exact aU (by rw[aA];exact aK _)
    have tl:0+(L.take k).flatten.length<=(if k=0 then xs else(L.take k).flatten.map jR).length:=by
     by_cases h0:k=0
     ·subst h0;simp
     ·rw[aF h0,aA,bD];exact aK _
    rcases aC k L.length with hkl|hkl
    ·obtain⟨l,hx⟩:=gex hkl;have hb:=bound k hk;have hll:=hl l (aI hx);have hn:=next hx
     have hlen:(L.take (k+1)).flatten.length=(L.take k).flatten.length+(l.map jR).length:=by rw[hn,aD,aA]
     have hml:(l.map jR).length<1000:=by rw[aA];exact hll
     iterate 30 (all_goals((conv=>whnf);first|(with_reducible first|refine hZ hkl ?_|refine hU hx ?_|refine Sl.intro tl tk ?_)|refine zG ?_|apply zA|intro h|exact zT|skip))
     refine⟨k+1,by omega,by omega,?_⟩;rw[aF (Nat.succ_ne_zero k),hlen,hn,aQ];exact⟨[(0,1)],rfl,⟨rfl,rfl,rfl,rfl,trivial⟩,⟨rfl,trivial⟩⟩
    ·have hkL:k=L.length:=by omega
     iterate 10 (all_goals((conv=>whnf);first|(with_reducible refine Sl.intro tl tk ?_)|refine zG ?_|apply zA|intro h|exact zT|skip))
     rw[hkL,dA];exact hK
def g19:Ctx:={N:=71,plan:=p1 5 (lo 24) (p1 8 (lo 11) pn),hints:=h1 3 [.virt 5 2] hn}
abbrev aUH:=ofD g19 Tryz.func261
def g18:Ctx:={N:=10}
abbrev aUG:=ofD g18 Tryz.func135
def aGf:Ctx:={N:=8}
abbrev aDe:=ofD aGf Tryz.func288
def aNo:Ctx:={N:=8}
abbrev aIg:=ofD aNo Tryz.func221
def aSX:Ctx:={N:=25,hints:=h1 2 [.virt 5 1] hn}
abbrev aPf:=ofD aSX Tryz.func287
def aSY:Ctx:={N:=19}
abbrev aDc:=ofD aSY Tryz.func257
def aNn:Ctx:={N:=8}
abbrev aIf:=ofD aNn Tryz.func307
def aUv:Ctx:={N:=14,np:=2,out:=true}
abbrev aTA:=ofD aUv Tryz.func217
def aUw:Ctx:={N:=37,np:=4,own:=oz [217],plan:=p1 10 (lp 7 [14]) pn,hints:=h1 0 [.renewI 2 0] hn,out:=true}
abbrev aTB:=ofD aUw Tryz.func220
def Ad:Sched:=lp 5 [10,13]
def aSU:Ctx:={N:=77,np:=7,own:=oz [286,220],plan:=p1 4 Ad (p1 6 Ad (p1 8 Ab (p1 9 Ab (p1 16 Ad (p1 20 Ab pn))))),hints:=h1 0 [.renewI 5 0] hn,out:=true,lend:=oz [257]}
abbrev aPc:=ofD aSU Tryz.func286
def aGe:Ctx:={N:=15,np:=4,own:=oz [286],out:=true}
abbrev aDd:=ofD aGe Tryz.func219
def aSW:Ctx:={N:=40,own:=oz [219,217],hints:=h1 2 [.virtB 8 0 2] hn}
abbrev aPe:=ofD aSW Tryz.func145
def aUx:Ctx:={N:=8,np:=2,out:=true}
abbrev aTC:=ofD aUx Tryz.func222
def aSV:Ctx:={N:=77,np:=5,own:=oz [286,222],plan:=p1 4 Ad (p1 6 Ad (p1 8 Ab (p1 9 Ab (p1 16 Ad (p1 20 Ab pn))))),hints:=h1 0 [.renewI 3 0] hn,out:=true,lend:=oz [257]}
abbrev aPd:=ofD aSV Tryz.func286
def aSZ:Ctx:={N:=15,np:=2,own:=oz [286],out:=true}
abbrev aPg:=ofD aSZ Tryz.func219
def aTa:Ctx:={N:=64,own:=oz [219],plan:=p1 14 Bq pn,hints:=h1 4 [.virtB 6 0 7] (h1 8 [.freezeB 6,.asL 8] hn)}
abbrev aPh:=ofD aTa Tryz.func146
def aMm:Ctx:={N:=26,hints:=h1 4 [.virt 3 1] (h1 8 [.freeze 3] hn)}
abbrev aHd:=ofD aMm Tryz.func22
def aLX:Ctx:={N:=41,plan:=p1 9 (lp 7 [17,19,21,23,25,27,14,28,31,33,35]) pn}
abbrev aGO:=ofD aLX Tryz.func66
def Aw:Sched:=ln [3,5,7,0,8,11,13,15,17,19]
def aMk:Ctx:={N:=132,own:=oz [5,6,11,10,15],plan:=p1 11 (lp 11 [25,27,22,28,30,33,35,37,39,43,40,44,46,49,51]) (p1 15 Aw (p1 16 Aw (p1 17 (lp 11 [25,27,22,28,30,33,35,37,41,38,42,44,47,49,50,53,55]) pn))),cut:=oz [8]}
abbrev aHb:=ofD aMk Tryz.func4
def aSD:Ctx:={N:=8}
abbrev aOM:=ofD aSD Tryz.func18
def aMO:Ctx:={N:=26,plan:=p1 6 (lo 9) pn}
abbrev aHE:=ofD aMO Tryz.func57
def aMb:Ctx:={N:=49,own:=oz [136,137]}
abbrev aGS:=ofD aMb Tryz.func65
def aSn:Ctx:={N:=24,hints:=h1 4 [.virt 3 1] (h1 9 [.freeze 3] hn)}
abbrev aCw:=ofD aSn Tryz.func21
def aSi:Ctx:={N:=9}
abbrev aOt:=ofD aSi Tryz.func59
def aLY:Ctx:={N:=9}
abbrev aGP:=ofD aLY Tryz.func130
def aSb:Ctx:={N:=27,lend:=oz [129]}
abbrev aOm:=ofD aSb Tryz.func60
def aMi:Ctx:={N:=19,plan:=p1 1 Af pn}
abbrev aGZ:=ofD aMi Tryz.func62
def aSf:Ctx:={N:=53,np:=1,plan:=p1 4 (lp 14 [28,31,33]) (p1 6 Ag pn)}
abbrev aOq:=ofD aSf Tryz.func203
def aMo:Ctx:={N:=63,np:=1,own:=oz [203]}
abbrev aHf:=ofD aMo Tryz.func132
def aMn:Ctx:={N:=9,np:=1,own:=oz [132]}
abbrev aHe:=ofD aMn Tryz.func61
def aSk:Ctx:={N:=37,own:=oz [61],hints:=h1 4 [.virt 5 1] (h1 10 [.freeze 2] hn)}
abbrev aOv:=ofD aSk Tryz.func19
def aMe:Ctx:={N:=53,np:=1,plan:=p1 4 (lp 14 [28,31,33]) (p1 6 Ag pn)}
abbrev aGV:=ofD aMe Tryz.func157
def aSl:Ctx:={N:=148,np:=1,own:=oz [157],plan:=p1 17 (lp 13 [26,29,31,33]) pn}
abbrev aOw:=ofD aSl Tryz.func81
def aFx:Ctx:={N:=14,np:=1,own:=oz [81]}
abbrev aCx:=ofD aFx Tryz.func31
def aMl:Ctx:={N:=23}
abbrev aHc:=ofD aMl Tryz.func28
def aSc:Ctx:={N:=23}
abbrev aOn:=ofD aSc Tryz.func27
def Aq:Sched:=ln [24,28,31,33,35,36,39]
def aSp:Ctx:={N:=80,np:=2,plan:=p1 10 (lz [1,3,5,9,13,15,17,19,21,23,27] (.alt 3 (.alt 5 Aq (.alt 12 (ln [11,28,31,33,35,36,39]) Aa)) (.alt 5 (.alt 3 Aq (.alt 12 (ln [7,28,31,33,35,36,39]) Aa)) (.alt 12 (ln [7,11,28,31,33,35,36,39]) Aa)))) pn}
abbrev aCy:=ofD aSp Tryz.func30
def aUp:Ctx:={N:=97,own:=oz [30,31],hints:=h1 19 [.virtB 17 1 2] hn}
abbrev aTu:=ofD aUp Tryz.func7
def aSe:Ctx:={N:=76,plan:=p1 3 Av (p1 4 (lp 12 [27,24,28,31,33]) pn)}
abbrev aOp:=ofD aSe Tryz.func16
def aSd:Ctx:={N:=31}
abbrev aOo:=ofD aSd Tryz.func116
def aFw:Ctx:={N:=7}
abbrev aCv:=ofD aFw Tryz.func115
def aSh:Ctx:={N:=19}
abbrev aOs:=ofD aSh Tryz.func192
def aLZ:Ctx:={N:=9}
abbrev aGQ:=ofD aLZ Tryz.func114
def aMj:Ctx:={N:=8,lend:=oz [114]}
abbrev aHa:=ofD aMj Tryz.func54
def aMp:Ctx:={N:=13}
abbrev aHg:=ofD aMp Tryz.func112
def aSo:Ctx:={N:=9,lend:=oz [111]}
abbrev aOy:=ofD aSo Tryz.func53
def aMa:Ctx:={N:=17}
abbrev aGR:=ofD aMa Tryz.func131
def aSg:Ctx:={N:=30,plan:=p1 1 Av pn}
abbrev aOr:=ofD aSg Tryz.func56
def aMd:Ctx:={N:=59,plan:=p1 7 (lp 6 [12,15,17,19,21,23]) (p1 9 (lo 15) pn)}
abbrev aGU:=ofD aMd Tryz.func17
def aMh:Ctx:={N:=49,np:=1,own:=oz [52,11],plan:=p1 3 (lz [1,5,7,9,11,23] (.wch 1 (lz [12,15,17,19] (.wch 10 (ln [24,27,29,31,32]))))) (p1 4 (lz [1,5,7,9,11] (.wch 1 (ln [12,15,17,19,21,23,24]))) pn)}
abbrev aGY:=ofD aMh Tryz.func15
def aSj:Ctx:={N:=20,np:=1,own:=oz [24,25,26],plan:=p1 2 (lz [3,5,7,11] (.wch 0 (ln [8,12,14,16,19]))) pn}
abbrev aOu:=ofD aSj Tryz.func6
def aMf:Ctx:={N:=9}
abbrev aGW:=ofD aMf Tryz.func23
def aSm:Ctx:={N:=67,plan:=p1 2 (lz [3] (.alt 0 (.alt 2 (ln [7,9,11,12,14,17]) (.alt 6 (ln [4,7,9,11,14,17]) Aa)) (.alt 6 (ln [0,4,7,9,11,14,17]) Aa))) (p1 6 (ln [3,5,0,6,9,11,13,15,17]) (p1 7 (lp 6 [12,15,17,19,21,23,25,26,29,31,33,35,37,39,41,43,45,47,51,48,52,55,57,59,60,63,65,67,69]) pn)),hints:=h1 2 [.flatB 1 1,.freezeB 1] hn}
abbrev aOx:=ofD aSm Tryz.func14
def aMg:Ctx:={N:=6}
abbrev aGX:=ofD aMg Tryz.func133
def aMc:Ctx:={N:=20}
abbrev aGT:=ofD aMc Tryz.func63
def aSv:Ctx:={N:=9}
abbrev aOE:=ofD aSv Tryz.func223
def aMH:Ctx:={N:=9}
abbrev aHx:=ofD aMH Tryz.func224
def aSw:Ctx:={N:=9}
abbrev aOF:=ofD aSw Tryz.func225
def aMI:Ctx:={N:=9}
abbrev aHy:=ofD aMI Tryz.func226
def aSx:Ctx:={N:=39,plan:=p1 9 (lz [1,5] (.alt 1 (ln [6,9,10]) (.alt 3 (ln [3,9,10]) Aa))) pn,hints:=h1 2 [.virt 6 10] hn}
abbrev aOG:=ofD aSx Tryz.func155
def aSA:Ctx:={N:=111,cut:=oz [18]}
abbrev aOJ:=ofD aSA Tryz.func78
def aFM:Ctx:={N:=33,lend:=oz [223,225]}
abbrev aCM:=ofD aFM Tryz.func147
def aML:Ctx:={N:=37,plan:=p1 5 (lp 7 [14,17,19,21,23]) pn}
abbrev aHB:=ofD aML Tryz.func29
def aFL:Ctx:={N:=131}
abbrev aCL:=ofD aFL Tryz.func74
theorem aPG{a b:ByteArray}(h:sEq a b=true):a=b:=by
 rw[nS]at h;have h:=of_decide_eq_true (by simpa using h:decide (a.data.toList=b.data.toList)=true);exact ByteArray.ext (Array.ext' h)
def lK(l:List Df)(s:ByteArray):Option Nat:=l.findIdx? fun d=>sEq d.name s
theorem lD{l:List Df}{s:ByteArray}{n:Nat}(h:lK l s=some n):∃d,l[n]? =some d/\d.name=s/\n<l.length:=by
 unfold lK at h;rw[dU]at h;obtain⟨h1,h2,_⟩:=h;exact⟨_,aE h1,aPG h2,h1⟩
theorem mI(l:List Df)(s:ByteArray):jJ (fun d=>sEq d.name s) l=match lK l s with
  |some n=>(n:Int)
  |none=> -1:=rfl
section
variable {S:Type} (v:It->S->Int×S)
def pS(rec:ByteArray->List Nat->S->Int×List Nat×S):List It->List Nat->S->Int×List Nat×S
 |[],d,s=>(0,d,s)
 |x::r,d,s=>
  let q:=if x.kind=3 then rec x.name d s else((v x s).1,d,(v x s).2)
  if q.1=0 then pS rec r q.2.1 q.2.2 else q
def fol(l:List Df):Nat->List Nat->ByteArray->List Nat->S->Int×List Nat×S
 |0,_,_,d,s=>(8,d,s)
 |k+1,p,nm,d,s=>match lK l nm with
  |none=>(5,d,s)
  |some n=>if n∈p then(8,d,s)else if n∈d then(0,d,s)else
   let q:=pS v (fol l k (p++[n])) (((l[n]?).map (·.items)).getD []) d s
   if q.1=0 then(0,q.2.1++[n],q.2.2)else q
theorem I4(rec:ByteArray->List Nat->S->Int×List Nat×S)(d:List Nat)(s:S):pS v rec [] d s=(0,d,s):=rfl
theorem pE(rec:ByteArray->List Nat->S->Int×List Nat×S)(x:It)(r:List It)(d:List Nat)(s:S):pS v rec (x::r) d s=
  if(if x.kind=3 then rec x.name d s else((v x s).1,d,(v x s).2)).1=0 then pS v rec r (if x.kind=3 then rec x.name d s else((v x s).1,d,(v x s).2)).2.1 (if x.kind=3 then rec x.name d s else((v x s).1,d,(v x s).2)).2.2
  else(if x.kind=3 then rec x.name d s else((v x s).1,d,(v x s).2)):=rfl
end
open Classical in
def mW(l:List Df)(p:List Nat):Value->Option AV:=fun k=>if ∃n d,n∈p/\l[n]? =some d/\k=.string d.name then some (.sb true)else none
def Firsts(l:List Df)(p:List Nat):Prop:=∀n,n∈p->∀d,l[n]? =some d->lK l d.name=some n
theorem Firsts.nil{l:List Df}:Firsts l []:=fun n h=>by cases h
theorem Firsts.snoc{l:List Df}{p:List Nat}{s:ByteArray}{n:Nat}(h:Firsts l p)(hn:lK l s=some n):Firsts l (p++[n]):=fun m hm d hd=>by
 rcases aY.1 hm with hm|hm
 ·exact h m hm d hd
 ·rw[aW.1 hm]at hd⊢;obtain⟨d',h1,h2,_⟩:=lD hn;rw[hd]at h1;cases h1;rw[h2];exact hn
theorem wY{l:List Df}{p:List Nat}{s:ByteArray}{n:Nat}(hn:lK l s=some n)(h:n∈p):mW l p (.string s)=some (.sb true):=by
 obtain⟨d,h1,h2,_⟩:=lD hn;rw[mW,aH ⟨n,d,h,h1,by rw[h2]⟩]
theorem qF{l:List Df}{p:List Nat}{s:ByteArray}{n:Nat}(hf:Firsts l p)(hn:lK l s=some n)(h:n∉p):mW l p (.string s)=none:=by
 rw[mW,aF]
 rintro⟨m,d,h1,h2,h3⟩
 have e:s=d.name:=by simpa using h3
 have:=hf m h1 d h2;rw[<-e,hn]at this;cases this;exact h h1
theorem L0(l:List Df):(fun _=>none)=mW l []:=by
 funext k
 rw[mW,aF]
 rintro⟨n,d,h,_⟩;cases h
theorem updM_name{l:List Df}{p:List Nat}{s:ByteArray}{n:Nat}(hn:lK l s=some n):mW l (p++[n])=F8 (mW l p) (.string s) (.sb true):=by
 obtain⟨d,h1,h2,_⟩:=lD hn
 funext k
 unfold F8;split
 ·rename_i e;rw[e,wY hn zx]
 ·rename_i e;unfold mW;have:(∃m d,m∈p++[n]/\l[m]? =some d/\k=.string d.name)↔∃m d,m∈p/\l[m]? =some d/\k=.string d.name:=by
   constructor
   ·rintro⟨m,d',g1,g2,g3⟩
    rcases aY.1 g1 with g1|g1
    ·exact⟨m,d',g1,g2,g3⟩
    ·rw[aW.1 g1,h1]at g2;cases g2;exact absurd (g3.trans (by rw[h2])) e
   ·rintro⟨m,d',g1,g2,g3⟩
    exact⟨m,d',cM _ g1,g2,g3⟩
  by_cases hx:∃m d,m∈p/\l[m]? =some d/\k=.string d.name
  ·rw[aH hx,aH (this.2 hx)]
  ·rw[aF hx,aF (fun h=>hx (this.1 h))]
theorem delM_name{l:List Df}{p:List Nat}{s:ByteArray}{n:Nat}(hf:Firsts l p)(hn:lK l s=some n)(h:n∉p):mW l p=Iu (mW l (p++[n])) (.string s):=by
 funext k
 unfold Iu;split
 ·rename_i e;rw[e,qF hf hn h]
 ·rename_i e;rw[updM_name hn,F8,aF e]
structure Fine (l:List Df) (p d:List Nat):Prop where
 pn:p.Nodup
 dn:d.Nodup
 pf:Firsts l p
 df:Firsts l d
 pl:∀n,n∈p->n<l.length
 dl:∀n,n∈d->n<l.length
 dj:∀n,n∈p->n∉d
theorem Fine.push{l:List Df}{p d:List Nat}{s:ByteArray}{n:Nat}(h:Fine l p d)(hn:lK l s=some n)(hp:n∉p)(hd:n∉d):Fine l (p++[n]) d:=
 ⟨eK.2 ⟨h.pn,by simp,fun a ha b hb e=>by rw[aW.1 hb]at e;exact hp (e▸ha)⟩,h.dn,h.pf.snoc hn,h.df,fun m hm=>by
  rcases aY.1 hm with hm|hm
  ·exact h.pl m hm
  ·rw[aW.1 hm];exact(lD hn).choose_spec.2.2,h.dl,fun m hm=>by
  rcases aY.1 hm with hm|hm
  ·exact h.dj m hm
  ·rw[aW.1 hm];exact hd⟩
theorem Fine.pop{l:List Df}{p d:List Nat}{s:ByteArray}{n:Nat}(h:Fine l (p++[n]) d)(hn:lK l s=some n):Fine l p (d++[n]):=by
 have hnd:n∉d:=h.dj n zx;have hp:=eK.1 h.pn;exact⟨hp.1,eK.2 ⟨h.dn,by simp,fun a ha b hb e=>by rw[aW.1 hb]at e;exact hnd (e▸ha)⟩,fun m hm=>h.pf m (cM _ hm),h.df.snoc hn,
  fun m hm=>h.pl m (cM _ hm),fun m hm=>by
   rcases aY.1 hm with hm|hm
   ·exact h.dl m hm
   ·rw[aW.1 hm];exact h.pl n zx,fun m hm hmd=>by
   rcases aY.1 hmd with hmd|hmd
   ·exact h.dj m (cM _ hm) hmd
   ·exact hp.2.2 m hm n zx (aW.1 hmd)⟩
theorem aGv{l:List Nat}{m:Nat}(h:l.Nodup)(hb:∀x,x∈l->x<m):l.length<=m:=by
 have:=qI (l:=l.map fun n:Nat=>(n:Int)) (m:=(List.range m).map fun n:Nat=>(n:Int)) (by
  unfold List.Nodup at*;rw[gF];exact h.imp fun hab e=>hab zo) (fun x hx=>by
  obtain⟨n,hn,rfl⟩:=bU.1 hx;exact bU.2 ⟨n,dJ.2 (hb n hn),rfl⟩)
 simpa using this
theorem Fine.small{l:List Df}{p d:List Nat}(h:Fine l p d):d.length+p.length<=l.length:=by
 have h1:(d++p).Nodup:=eK.2 ⟨h.dn,h.pn,fun a ha b hb e=>h.dj b hb (e▸ha)⟩;have h2:∀n,n∈d++p->n<l.length:=fun n hn=>by
  rcases aY.1 hn with hn|hn
  ·exact h.dl n hn
  ·exact h.pl n hn
 have h3:=aGv h1 h2;rw[aD]at h3;exact h3
section
variable {S:Type} (v:It->S->Int×S) (sz:S->Nat) (hv:∀x s,(v x s).1=0->sz (v x s).2<=sz s+1000)
structure Fed (l:List Df) (p d:List Nat) (s:S) (d':List Nat) (s':S) (c:Nat):Prop where
 fine:Fine l p d'
 le:d.length<=d'.length
 size:sz s'+1000000*d.length<=sz s+1000000*d'.length+c
include hv
theorem Qw{l:List Df}{p:List Nat}{rec:ByteArray->List Nat->S->Int×List Nat×S}(hrec:∀nm d s,Fine l p d->(rec nm d s).1=0->Fed sz l p d s (rec nm d s).2.1 (rec nm d s).2.2 0):
  ∀(its:List It) (d:List Nat) (s:S),Fine l p d->(pS v rec its d s).1=0->Fed sz l p d s (pS v rec its d s).2.1 (pS v rec its d s).2.2 (1000*its.length)
 |[],d,s,hf,_=>⟨hf,aK _,by simp[pS]⟩
 |x::r,d,s,hf,h=>by
  rw[pE]at h⊢;have hq:(if x.kind=3 then rec x.name d s else((v x s).1,d,(v x s).2)).1=0->Fed sz l p d s (if x.kind=3 then rec x.name d s else((v x s).1,d,(v x s).2)).2.1 (if x.kind=3 then rec x.name d s else((v x s).1,d,(v x s).2)).2.2 1000:=by
   by_cases hk:x.kind=3
   ·rw[aH hk];intro h0;have:=hrec x.name d s hf h0;exact⟨this.fine,this.le,by have:=this.size;omega⟩
   ·rw[aF hk];intro h0;exact⟨hf,aK _,by have:=hv x s h0;simp only;omega⟩
  generalize (if x.kind=3 then rec x.name d s else((v x s).1,d,(v x s).2))=q at*;by_cases h0:q.1=0
  ·rw[aH h0]at h⊢;have hq:=hq h0;have h2:=Qw hrec r q.2.1 q.2.2 hq.fine h;exact⟨h2.fine,bA hq.le h2.le,by have:=hq.size;have:=h2.size;rw[aB];omega⟩
  ·rw[aF h0]at h;exact absurd h h0
theorem Hs(l:List Df)(hit:∀d,d∈l->d.items.length<=999):∀(k:Nat) (p:List Nat) (nm:ByteArray) (d:List Nat) (s:S),Fine l p d->(fol v l k p nm d s).1=0->
  Fed sz l p d s (fol v l k p nm d s).2.1 (fol v l k p nm d s).2.2 0
 |0,p,nm,d,s,hf,h=>by simp[fol]at h
 |k+1,p,nm,d,s,hf,h=>by
  unfold fol at h⊢;cases hn:lK l nm with
  |none=>simp[hn]at h
  |some n=>
   simp only[hn]at h⊢;split at h
   ·simp at h
   rename_i hp;rw[aF hp];split at h
   ·rename_i hd;rw[aH hd];exact⟨hf,aK _,by simp⟩
   rename_i hd;rw[aF hd];obtain⟨df,hdf,_⟩:=lD hn;simp only[hdf,dF,cY]at h⊢;have hpush:=hf.push hn hp hd;split at h
   ·rename_i h0;rw[aH h0];have h1:=Qw v sz hv (fun nm d s hf h=>Hs l hit k (p++[n]) nm d s hf h) df.items d s hpush h0;have hlen:=hit df (aI hdf);exact⟨h1.fine.pop hn,by rw[aD];have:=h1.le;omega,by have:=h1.size;simp only[aD,cR];omega⟩
   ·rename_i h0;exact absurd h h0
end
end Go.Proofs.YtnomkooikbhgmaaGreatDoor
