/- Lemmas. -/
import Derived.Test.YtnomkooikbhgmaaGreatDoorProg
import Derived.Test.YtnomkooikbhgmaaGreatDoorM16
set_option linter.unusedVariables false
set_option linter.unusedSimpArgs false
set_option maxRecDepth 100000
set_option maxHeartbeats 4000000
noncomputable section
namespace Go.Proofs.YtnomkooikbhgmaaGreatDoor
open Go Go.Vm
theorem ix_map_any{α:Type}{f:α->AV}{l:List α}{i:Nat}{K:AV->Prop}(h:i<l.length)(hk:∀r,r∈l->K (f r)):Ix (l.map f) i K:=ix_map (aE h) (hk _ (dC h))
abbrev iA:=@ix_map_any
abbrev encSt(s:ByteArray):AV:=.v (.string s)
theorem ix_baA{s:ByteArray}{j:Nat}{K:UInt8->Prop}(h:j<s.size)(hk:∀b,K b):∃b,s[j]? =some b/\K b:=ix_ba h fun b _=>hk b
theorem cqNum:∀(N n:Nat),n<=N->n<100000->∀{K:KT},(∀s:ByteArray,s.size<=n+1->K (.v (.string s)) [])->AC 310 [.v (.int .i64 n)] [] K:=by
 intro N
 induction N with
 |zero=>
  intro n hN hn K hK;refine ofq1Num rfl rfl ?_;(repeat' ((conv=>whnf);first|(with_reducible refine wr_any fun r=>?_)|(refine sl_full (by rfl) ?_)|refine zG ?_|apply zA|intro h|exact zT));all_goals conv=>whnf
  all_goals first
   |exact hK _ (by rw[strOfNums_size];simp)
   |(exfalso;omega)
 |succ N ih=>
  intro n hN hn K hK;have hq:(n:Int).tdiv 10=((n/10:Nat):Int):=by rw[dH zo];omega
  refine ofq1Num rfl rfl ?_;by_cases h10:n<10
  ·(repeat' ((conv=>whnf);first|(with_reducible refine wr_any fun r=>?_)|(refine sl_full (by rfl) ?_)|refine zG ?_|apply zA|intro h|exact zT));all_goals conv=>whnf
   all_goals first
    |exact hK _ (by rw[strOfNums_size];simp)
    |(exfalso;omega)
  ·have hrec:∀{K:KT},(∀s:ByteArray,s.size<=n/10+1->K (.v (.string s)) [])->AC 310 [.v (.int .i64 ((n/10:Nat):Int))] [] K:=fun h=>ih (n/10) zo zo h;(repeat' ((conv=>whnf);first|(with_reducible first|refine Ob.intro zd ?_|refine wr_i64 hq zo zo ?_|refine hrec fun s hs=>?_|refine wr_any fun r=>?_)|(refine sl_full (by rfl) ?_)|(with_reducible refine Ob.intro (by rw[strOfNums_size];simp only[aB,aH];omega) ?_)|refine zG ?_|apply zA|intro h|exact zT));all_goals conv=>whnf
   all_goals first
    |(exfalso;omega)
    |exact hK _ (by rw[ByteArray.size_append,strOfNums_size];simp only[aB,aH];omega)
theorem cqPad(n:Nat)(hn:n<100000){K:KT}(hK:∀s:ByteArray,s.size<=n+2->K (.v (.string s)) []):AC 293 [.v (.int .i64 n)] [] K:=by
 have z1:(⟨#[48]⟩:ByteArray).size=1:=rfl;refine ofq9Pad rfl rfl ?_;(repeat' ((conv=>whnf);first|(with_reducible first|refine cqNum n n (aM _) hn fun s hs=>?_|refine Ob.intro zo ?_)|refine zG ?_|apply zA|intro h|exact zT));all_goals conv=>whnf
 all_goals first
  |exact hK _ zo
  |exact hK _ (by rw[ByteArray.size_append];omega)
theorem cqText(n:Nat)(hn:n<100000){K:KT}(hK:∀s:ByteArray,s.size<=2*n+10->K (.v (.string s)) []):AC 243 [.v (.int .i64 n)] [] K:=by
 have hq:(n:Int).tdiv 60=((n/60:Nat):Int):=by rw[dH zo];omega
 have hm:(n:Int).tmod 60=((n%60:Nat):Int):=by rw[fL zo];omega
 have z1:(⟨#[58]⟩:ByteArray).size=1:=rfl;have hP:∀{K:KT},(∀s:ByteArray,s.size<=n%60+2->K (.v (.string s)) [])->AC 293 [.v (.int .i64 ((n:Int).tmod 60))] [] K:=fun h=>by rw[hm];exact cqPad (n%60) zo h
 refine ofq9Text rfl rfl ?_;(repeat' ((conv=>whnf);first|(with_reducible first|refine Ob.intro zd ?_|refine wr_i64 hq zo zo ?_|refine wr_i64 hm zo zo ?_|refine cqPad (n/60) zo fun s hs=>?_|refine hP fun u hu=>?_|refine Ob.intro (by(try simp only[ByteArray.size_append]);omega) ?_)|refine zG ?_|apply zA|intro h|exact zT));all_goals conv=>whnf
 all_goals first
  |exact hK _ (by simp only[ByteArray.size_append];omega)
def dayL:List ByteArray:=[⟨#[109,111,110]⟩,⟨#[116,117,101]⟩,⟨#[119,101,100]⟩,⟨#[116,104,117]⟩,⟨#[102,114,105]⟩,⟨#[115,97,116]⟩,⟨#[115,117,110]⟩]
theorem cqDays{K:KT}(hK:K (.lst (dayL.map encSt)) []):AC 242 [] [] K:=by
 refine ofq9Days rfl rfl ?_;(repeat' ((conv=>whnf);first|(refine sl_full (by rfl) ?_)|refine zG ?_|apply zA|intro h|exact zT));all_goals conv=>whnf
 exact hK
theorem cqTwo(s:ByteArray){K:KT}(hK:∀r:Int,K (.v (.int .i64 r)) []):AC 306 [.v (.string s)] [] K:=by
 refine ofq9Two rfl rfl ?_;(repeat' ((conv=>whnf);first|(refine gT 0 rfl zo ?_)|(refine gT 1 rfl zo ?_)|(with_reducible first|refine ix_baA zo fun b=>?_|refine wr_any fun r=>?_)|refine zG ?_|apply zA|intro h|exact zT));all_goals conv=>whnf
 all_goals first
  |exact hK _
theorem cqClock(s:ByteArray){K:KT}(hK:∀r:Int,-1<=r->r<=1440->K (.v (.int .i64 r)) []):AC 281 [.v (.string s)] [] K:=by
 refine ofq9Clock rfl rfl ?_;(repeat' ((conv=>whnf);first|(refine gT 2 rfl zo ?_)|(with_reducible first|refine ix_baA zo fun b=>?_|refine gY 0 2 rfl rfl zo zo ?_|refine gY 3 s.size rfl rfl zo zo ?_|refine cqTwo _ fun r=>?_|refine wr_i64 rfl zo zo ?_)|refine zG ?_|apply zA|intro h|exact zT));all_goals conv=>whnf
 all_goals first
  |exact hK _ zo zo
theorem cqParts(s:ByteArray)(c:Int)(hs:s.size<=1000){K:KT}(hK:∀l:List ByteArray,l≠[]->l.length<=2000->K (.lst (l.map encSt)) []):AC 279 [.v (.string s),.v (.int .u8 c)] [] K:=by
 refine ofq1Parts rfl rfl ?_;(repeat' ((conv=>whnf);first|refine zG ?_|apply zA|intro h|exact zT));all_goals conv=>whnf
 refine gL (List ByteArray×Nat×Nat) (fun g=>⟨1,[(0,.arr 1 (g.1.map encSt))],[(0,.v (.string s)),(1,.v (.int .u8 c)),(5,.os 0 1 0 g.1.length),(6,.v (.int .i64 g.2.1)),(7,.v (.int .i64 g.2.2))]⟩)
  (fun g=>g.2.2<=s.size+1/\g.2.1<=g.2.2/\g.1.length<=g.2.2/\(g.2.2=s.size+1->g.1≠[])) (fun g=>s.size+1-g.2.2) ([],0,0) ⟨by simp only;omega,aM _,aM _,fun h=>by simp only at h;omega⟩ ?_ ?_
 ·exact leA
 rintro⟨l,a,i⟩ ⟨h1,h2,h3,h4⟩
 simp only at h1 h2 h3 h4⊢;rcases aF i (s.size+1)with hl|hl
 ·(repeat' ((conv=>whnf);first|(with_reducible first|refine hZ zo ?_|refine ix_baA zo fun b=>?_|refine gY a i rfl rfl zo zo ?_)|refine zG ?_|apply zA|intro h|exact zT));all_goals conv=>whnf
  all_goals first
   |(refine⟨(l,a,i+1),⟨by simp only;omega,by simp only;omega,by simp only;omega,fun h=>by simp only at h;omega⟩,by simp only;omega,?_⟩
     rw[show(((l,a,i+1):List ByteArray×Nat×Nat).2.2:Int)=(i:Int)+1 from by simp only;omega];exact leA)
   |(refine⟨(l++[s.extract a i],i+1,i+1),⟨by simp only;omega,by simp only;omega,by simp only[aC,aB,aH];omega,fun h=>by simp⟩,by simp only;omega,?_⟩
     simp only[aQ,aC,aR,bL,aB,aH,aO,aN];exact leA)
   |(exfalso;omega)
 ·(repeat' ((conv=>whnf);first|(with_reducible refine sl_full (aA ..) ?_)|refine zG ?_|apply zA|intro h|exact zT));all_goals conv=>whnf
  exact hK l (h4 zo) zo
theorem cqWin(l:List Rg)(hl:l.length<100000){K:KT}(hK:∀s,(s=true↔Canon l/\∀r,r∈l->r.hi<=10079)->K (.sb s) []):AC 172 [encRs l] [] K:=by
 refine ofq9Win rfl rfl ?_;(repeat' ((conv=>whnf);first|(with_reducible refine c33 l 10079 hl fun s hs=>?_)|refine zG ?_|apply zA|intro h|exact zT));all_goals conv=>whnf
 exact hK _ hs
theorem canon_le{l:List Rg}(h:Canon l){r:Rg}(hr:r∈l):r.lo<=r.hi:=h.1 r hr
def winL:List ByteArray:=[⟨#[109,111,110]⟩,⟨#[116,117,101]⟩,⟨#[115,117,110]⟩,⟨#[109,111,110,45,102,114,105]⟩,⟨#[115,97,116,45,115,117,110]⟩,⟨#[119,101,100,45,119,101,100]⟩]
def houL:List ByteArray:=[⟨#[48,48,58,48,48,45,50,52,58,48,48]⟩,⟨#[48,56,58,48,48,45,49,55,58,48,48]⟩,⟨#[48,56,58,48,48,45,48,56,58,48,49]⟩,⟨#[50,51,58,53,57,45,50,52,58,48,48]⟩,⟨#[49,55,58,48,48,45,49,56,58,51,48]⟩]
def IsLen(x n:Nat):Prop:=x<2^n/\(n=0\/2^(n-1)<=x)
instance (x n:Nat):Decidable (IsLen x n):=by unfold IsLen;infer_instance
theorem isLen_shift{x n s:Nat}(h:IsLen (x/2^s) n)(hx:2^s<=x):IsLen x (n+s):=by
 obtain⟨h1,h2⟩:=h;have hp:=fJ s;have hn:n≠0:=by
  rintro rfl
  have:=(gH hp).1 h1;omega
 refine⟨by rw[Nat.pow_add];exact(gH hp).1 h1,.inr ?_⟩;rw[show n+s-1=(n-1)+s by omega,Nat.pow_add];exact(Nat.le_div_iff_mul_le hp).1 (h2.resolve_left hn)
theorem wr_u8{e:Int}{K:Int->Prop}(j:Nat)(h:e=j)(hj:j<256)(hk:K j):Wr .u8 e K:=by
 subst h;refine Wr.intro ?_ hk;simp only[IntKind.wrap,IntKind.signed,IntKind.bits];simp;omega
def chkTab(s:ByteArray):Bool:=Nat.beq s.data.size 256&&(List.range 256).all fun j=>match s.data[j]? with
 |some b=>decide (IsLen j b.toNat)
 |none=>false
theorem tab_in{s:ByteArray}{j:Nat}{K:UInt8->Prop}(hc:chkTab s=true)(hj:j<256)(hk:∀b:UInt8,IsLen j b.toNat->b.toNat<256->K b):In (j:Int) s.size fun j'=>∃b,s[j']? =some b/\K b:=by
 simp only[chkTab,aJ,bR,dN]at hc;obtain⟨h1,h2⟩:=hc;have h1:s.size=256:=aW h1;have hlt:j<s.size:=by omega
 refine gT j rfl hlt ⟨s[j],by simp[hlt],hk _ ?_ (UInt8.toNat_lt _)⟩;have:=h2 j hj;have e:s.data[j]? =some s[j]:=by rw[bH (show j<s.data.size from hlt)];rfl
 rw[e]at this;simpa using this
end Go.Proofs.YtnomkooikbhgmaaGreatDoor
