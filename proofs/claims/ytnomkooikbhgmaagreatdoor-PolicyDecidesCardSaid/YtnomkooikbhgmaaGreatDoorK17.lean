/- Lemmas. -/
import Derived.Test.YtnomkooikbhgmaaGreatDoorProg
import Derived.Test.YtnomkooikbhgmaaGreatDoorK16
set_option linter.unusedVariables false
set_option linter.unusedSimpArgs false
set_option maxRecDepth 100000
set_option maxHeartbeats 4000000
noncomputable section
namespace Go.Proofs.YtnomkooikbhgmaaGreatDoor
open Go Go.Vm
theorem T7{α:Type}{f:α->AV}{l:List α}{i:Nat}{K:AV->Prop}(h:i<l.length)(hk:∀r,r∈l->K (f r)):Ix (l.map f) i K:=aBV (aE h) (hk _ (cX h))
abbrev iB:=@T7
abbrev mU(s:ByteArray):AV:=.v (.string s)
theorem T6{s:ByteArray}{j:Nat}{K:UInt8->Prop}(h:j<s.size)(hk:∀b,K b):∃b,s[j]? =some b/\K b:=aBT h fun b _=>hk b
theorem aQv:∀(N n:Nat),n<=N->n<100000->∀{K:KT},(∀s:ByteArray,s.size<=n+1->K (.v (.string s)) [])->AC 310 [.v (.int .i64 n)] [] K:=by
 intro N
 induction N with
 |zero=>
  intro n hN hn K hK;refine Wu rfl rfl ?_;(repeat' ((conv=>whnf);first|(with_reducible refine xN fun r=>?_)|(refine iP (by rfl) ?_)|refine zG ?_|apply zA|intro h|exact zT));all_goals conv=>whnf
  all_goals first
   |exact hK _ (by rw[strOfNums_size];simp)
   |(exfalso;omega)
 |succ N ih=>
  intro n hN hn K hK;have hq:(n:Int).tdiv 10=((n/10:Nat):Int):=by rw[bX zo];omega
  refine Wu rfl rfl ?_;by_cases h10:n<10
  ·(repeat' ((conv=>whnf);first|(with_reducible refine xN fun r=>?_)|(refine iP (by rfl) ?_)|refine zG ?_|apply zA|intro h|exact zT));all_goals conv=>whnf
   all_goals first
    |exact hK _ (by rw[strOfNums_size];simp)
    |(exfalso;omega)
  ·have hrec:∀{K:KT},(∀s:ByteArray,s.size<=n/10+1->K (.v (.string s)) [])->AC 310 [.v (.int .i64 ((n/10:Nat):Int))] [] K:=fun h=>ih (n/10) zo zo h;(repeat' ((conv=>whnf);first|(with_reducible first|refine Ob.intro zd ?_|refine jB hq zo zo ?_|refine hrec fun s hs=>?_|refine xN fun r=>?_)|(refine iP (by rfl) ?_)|(with_reducible refine Ob.intro (by rw[strOfNums_size];simp only[aB,aG];omega) ?_)|refine zG ?_|apply zA|intro h|exact zT));all_goals conv=>whnf
   all_goals first
    |(exfalso;omega)
    |exact hK _ (by rw[ByteArray.size_append,strOfNums_size];simp only[aB,aG];omega)
theorem aJk(n:Nat)(hn:n<100000){K:KT}(hK:∀s:ByteArray,s.size<=n+2->K (.v (.string s)) []):AC 293 [.v (.int .i64 n)] [] K:=by
 have z1:(⟨#[48]⟩:ByteArray).size=1:=rfl;refine aHk rfl rfl ?_;(repeat' ((conv=>whnf);first|(with_reducible first|refine aQv n n (aK _) hn fun s hs=>?_|refine Ob.intro zo ?_)|refine zG ?_|apply zA|intro h|exact zT));all_goals conv=>whnf
 all_goals first
  |exact hK _ zo
  |exact hK _ (by rw[ByteArray.size_append];omega)
theorem aKD(n:Nat)(hn:n<100000){K:KT}(hK:∀s:ByteArray,s.size<=2*n+10->K (.v (.string s)) []):AC 243 [.v (.int .i64 n)] [] K:=by
 have hq:(n:Int).tdiv 60=((n/60:Nat):Int):=by rw[bX zo];omega
 have hm:(n:Int).tmod 60=((n%60:Nat):Int):=by rw[fO zo];omega
 have z1:(⟨#[58]⟩:ByteArray).size=1:=rfl;have hP:∀{K:KT},(∀s:ByteArray,s.size<=n%60+2->K (.v (.string s)) [])->AC 293 [.v (.int .i64 ((n:Int).tmod 60))] [] K:=fun h=>by rw[hm];exact aJk (n%60) zo h
 refine aCC rfl rfl ?_;(repeat' ((conv=>whnf);first|(with_reducible first|refine Ob.intro zd ?_|refine jB hq zo zo ?_|refine jB hm zo zo ?_|refine aJk (n/60) zo fun s hs=>?_|refine hP fun u hu=>?_|refine Ob.intro (by(try simp only[ByteArray.size_append]);omega) ?_)|refine zG ?_|apply zA|intro h|exact zT));all_goals conv=>whnf
 all_goals first
  |exact hK _ (by simp only[ByteArray.size_append];omega)
def dayL:List ByteArray:=[⟨#[109,111,110]⟩,⟨#[116,117,101]⟩,⟨#[119,101,100]⟩,⟨#[116,104,117]⟩,⟨#[102,114,105]⟩,⟨#[115,97,116]⟩,⟨#[115,117,110]⟩]
theorem aAr{K:KT}(hK:K (.lst (dayL.map mU)) []):AC 242 [] [] K:=by
 refine aCz rfl rfl ?_;(repeat' ((conv=>whnf);first|(refine iP (by rfl) ?_)|refine zG ?_|apply zA|intro h|exact zT));all_goals conv=>whnf
 exact hK
theorem aQw(s:ByteArray){K:KT}(hK:∀r:Int,K (.v (.int .i64 r)) []):AC 306 [.v (.string s)] [] K:=by
 refine aHl rfl rfl ?_;(repeat' ((conv=>whnf);first|(refine gU 0 rfl zo ?_)|(refine gU 1 rfl zo ?_)|(with_reducible first|refine T6 zo fun b=>?_|refine xN fun r=>?_)|refine zG ?_|apply zA|intro h|exact zT));all_goals conv=>whnf
 all_goals first
  |exact hK _
theorem aEs(s:ByteArray){K:KT}(hK:∀r:Int,-1<=r->r<=1440->K (.v (.int .i64 r)) []):AC 281 [.v (.string s)] [] K:=by
 refine Yt rfl rfl ?_;(repeat' ((conv=>whnf);first|(refine gU 2 rfl zo ?_)|(with_reducible first|refine T6 zo fun b=>?_|refine gZ 0 2 rfl rfl zo zo ?_|refine gZ 3 s.size rfl rfl zo zo ?_|refine aQw _ fun r=>?_|refine jB rfl zo zo ?_)|refine zG ?_|apply zA|intro h|exact zT));all_goals conv=>whnf
 all_goals first
  |exact hK _ zo zo
theorem aEt(s:ByteArray)(c:Int)(hs:s.size<=1000){K:KT}(hK:∀l:List ByteArray,l≠[]->l.length<=2000->K (.lst (l.map mU)) []):AC 279 [.v (.string s),.v (.int .u8 c)] [] K:=by
 refine L6 rfl rfl ?_;(repeat' ((conv=>whnf);first|refine zG ?_|apply zA|intro h|exact zT));all_goals conv=>whnf
 refine gM (List ByteArray×Nat×Nat) (fun g=>⟨1,[(0,.arr 1 (g.1.map mU))],[(0,.v (.string s)),(1,.v (.int .u8 c)),(5,.os 0 1 0 g.1.length),(6,.v (.int .i64 g.2.1)),(7,.v (.int .i64 g.2.2))]⟩)
  (fun g=>g.2.2<=s.size+1/\g.2.1<=g.2.2/\g.1.length<=g.2.2/\(g.2.2=s.size+1->g.1≠[])) (fun g=>s.size+1-g.2.2) ([],0,0) ⟨by simp only;omega,aK _,aK _,fun h=>by simp only at h;omega⟩ ?_ ?_
 ·exact leA
 rintro⟨l,a,i⟩ ⟨h1,h2,h3,h4⟩
 simp only at h1 h2 h3 h4⊢;rcases aC i (s.size+1)with hl|hl
 ·(repeat' ((conv=>whnf);first|(with_reducible first|refine iA zo ?_|refine T6 zo fun b=>?_|refine gZ a i rfl rfl zo zo ?_)|refine zG ?_|apply zA|intro h|exact zT));all_goals conv=>whnf
  all_goals first
   |(refine⟨(l,a,i+1),⟨by simp only;omega,by simp only;omega,by simp only;omega,fun h=>by simp only at h;omega⟩,by simp only;omega,?_⟩
     rw[show(((l,a,i+1):List ByteArray×Nat×Nat).2.2:Int)=(i:Int)+1 from by simp only;omega];exact leA)
   |(refine⟨(l++[s.extract a i],i+1,i+1),⟨by simp only;omega,by simp only;omega,by simp only[aD,aB,aG];omega,fun h=>by simp⟩,by simp only;omega,?_⟩
     simp only[aQ,aD,aR,bL,aB,aG,aN,aL];exact leA)
   |(exfalso;omega)
 ·(repeat' ((conv=>whnf);first|(with_reducible refine iP (aA ..) ?_)|refine zG ?_|apply zA|intro h|exact zT));all_goals conv=>whnf
  exact hK l (h4 zo) zo
theorem aJl(l:List Rg)(hl:l.length<100000){K:KT}(hK:∀s,(s=true↔jC l/\∀r,r∈l->r.hi<=10079)->K (.sb s) []):AC 172 [iH l] [] K:=by
 refine aHm rfl rfl ?_;(repeat' ((conv=>whnf);first|(with_reducible refine c33 l 10079 hl fun s hs=>?_)|refine zG ?_|apply zA|intro h|exact zT));all_goals conv=>whnf
 exact hK _ hs
theorem Qb{l:List Rg}(h:jC l){r:Rg}(hr:r∈l):r.lo<=r.hi:=h.1 r hr
def winL:List ByteArray:=[⟨#[109,111,110]⟩,⟨#[116,117,101]⟩,⟨#[115,117,110]⟩,⟨#[109,111,110,45,102,114,105]⟩,⟨#[115,97,116,45,115,117,110]⟩,⟨#[119,101,100,45,119,101,100]⟩]
def houL:List ByteArray:=[⟨#[48,48,58,48,48,45,50,52,58,48,48]⟩,⟨#[48,56,58,48,48,45,49,55,58,48,48]⟩,⟨#[48,56,58,48,48,45,48,56,58,48,49]⟩,⟨#[50,51,58,53,57,45,50,52,58,48,48]⟩,⟨#[49,55,58,48,48,45,49,56,58,51,48]⟩]
def vO(x n:Nat):Prop:=x<2^n/\(n=0\/2^(n-1)<=x)
instance (x n:Nat):Decidable (vO x n):=by unfold vO;infer_instance
theorem nO{x n s:Nat}(h:vO (x/2^s) n)(hx:2^s<=x):vO x (n+s):=by
 obtain⟨h1,h2⟩:=h;have hp:=fE s;have hn:n≠0:=by
  rintro rfl
  have:=(gJ hp).1 h1;omega
 refine⟨by rw[Nat.pow_add];exact(gJ hp).1 h1,.inr ?_⟩;rw[show n+s-1=(n-1)+s by omega,Nat.pow_add];exact(Nat.le_div_iff_mul_le hp).1 (h2.resolve_left hn)
theorem Mz{e:Int}{K:Int->Prop}(j:Nat)(h:e=j)(hj:j<256)(hk:K j):Wr .u8 e K:=by
 subst h;refine Wr.intro ?_ hk;simp only[IntKind.wrap,IntKind.signed,IntKind.bits];simp;omega
def aAe(s:ByteArray):Bool:=Nat.beq s.data.size 256&&(List.range 256).all fun j=>match s.data[j]? with
 |some b=>decide (vO j b.toNat)
 |none=>false
theorem F7{s:ByteArray}{j:Nat}{K:UInt8->Prop}(hc:aAe s=true)(hj:j<256)(hk:∀b:UInt8,vO j b.toNat->b.toNat<256->K b):In (j:Int) s.size fun j'=>∃b,s[j']? =some b/\K b:=by
 simp only[aAe,aJ,bP,dJ]at hc;obtain⟨h1,h2⟩:=hc;have h1:s.size=256:=aX h1;have hlt:j<s.size:=by omega
 refine gU j rfl hlt ⟨s[j],by simp[hlt],hk _ ?_ (UInt8.toNat_lt _)⟩;have:=h2 j hj;have e:s.data[j]? =some s[j]:=by rw[bJ (show j<s.data.size from hlt)];rfl
 rw[e]at this;simpa using this
end Go.Proofs.YtnomkooikbhgmaaGreatDoor
