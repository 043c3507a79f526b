/- Lemmas. -/
import Derived.Test.YtgicddadddhonaaGreatDoorProg
import Derived.Test.YtgicddadddhonaaGreatDoorM17
set_option linter.unusedVariables false
set_option linter.unusedSimpArgs false
set_option maxRecDepth 100000
set_option maxHeartbeats 4000000
noncomputable section
namespace Go.Proofs.YtgicddadddhonaaGreatDoor
open Go Go.Vm
abbrev mV(s:ByteArray):AV:=.v (.string s)
theorem T5{s:ByteArray}{j:Nat}{K:UInt8->Prop}(h:j<s.size)(hk:∀b,K b):∃b,s[j]? =some b/\K b:=aCA h fun b _=>hk b
theorem aSa:∀(N n:Nat),n<=N->n<100000->∀{K:KT},(∀s:ByteArray,s.size<=n+1->K (.v (.string s)) [])->AC 313 [.v (.int .i64 n)] [] K:=by
 intro N
 induction N with
 |zero=>
  intro n hN hn K hK;refine Xg rfl rfl ?_;(repeat' ((conv=>whnf);first|(with_reducible refine xE fun r=>?_)|(refine iT (by rfl) ?_)|refine zG ?_|apply zA|intro h|exact zT));all_goals conv=>whnf
  all_goals first
   |exact hK _ (by rw[strOfNums_size];simp)
   |(exfalso;omega)
 |succ N ih=>
  intro n hN hn K hK;have hq:(n:Int).tdiv 10=((n/10:Nat):Int):=by rw[dD zo];omega
  refine Xg rfl rfl ?_;by_cases h10:n<10
  ·(repeat' ((conv=>whnf);first|(with_reducible refine xE fun r=>?_)|(refine iT (by rfl) ?_)|refine zG ?_|apply zA|intro h|exact zT));all_goals conv=>whnf
   all_goals first
    |exact hK _ (by rw[strOfNums_size];simp)
    |(exfalso;omega)
  ·have hrec:∀{K:KT},(∀s:ByteArray,s.size<=n/10+1->K (.v (.string s)) [])->AC 313 [.v (.int .i64 ((n/10:Nat):Int))] [] K:=fun h=>ih (n/10) zo zo h;(repeat' ((conv=>whnf);first|(with_reducible first|refine Ob.intro zd ?_|refine jO hq zo zo ?_|refine hrec fun s hs=>?_|refine xE fun r=>?_)|(refine iT (by rfl) ?_)|(with_reducible refine Ob.intro (by rw[strOfNums_size];simp only[aB,aI];omega) ?_)|refine zG ?_|apply zA|intro h|exact zT));all_goals conv=>whnf
   all_goals first
    |(exfalso;omega)
    |exact hK _ (by rw[ByteArray.size_append,strOfNums_size];simp only[aB,aI];omega)
theorem aKq(n:Nat)(hn:n<100000){K:KT}(hK:∀s:ByteArray,s.size<=n+2->K (.v (.string s)) []):AC 303 [.v (.int .i64 n)] [] K:=by
 have z1:(⟨#[48]⟩:ByteArray).size=1:=rfl;refine aIs rfl rfl ?_;(repeat' ((conv=>whnf);first|(with_reducible first|refine aSa n n (aO _) hn fun s hs=>?_|refine Ob.intro zo ?_)|refine zG ?_|apply zA|intro h|exact zT));all_goals conv=>whnf
 all_goals first
  |exact hK _ zo
  |exact hK _ (by rw[ByteArray.size_append];omega)
theorem aLC(n:Nat)(hn:n<100000){K:KT}(hK:∀s:ByteArray,s.size<=2*n+10->K (.v (.string s)) []):AC 275 [.v (.int .i64 n)] [] K:=by
 have hq:(n:Int).tdiv 60=((n/60:Nat):Int):=by rw[dD zo];omega
 have hm:(n:Int).tmod 60=((n%60:Nat):Int):=by rw[fU zo];omega
 have z1:(⟨#[58]⟩:ByteArray).size=1:=rfl;have hP:∀{K:KT},(∀s:ByteArray,s.size<=n%60+2->K (.v (.string s)) [])->AC 303 [.v (.int .i64 ((n:Int).tmod 60))] [] K:=fun h=>by rw[hm];exact aKq (n%60) zo h
 refine aDy rfl rfl ?_;(repeat' ((conv=>whnf);first|(with_reducible first|refine Ob.intro zd ?_|refine jO hq zo zo ?_|refine jO hm zo zo ?_|refine aKq (n/60) zo fun s hs=>?_|refine hP fun u hu=>?_|refine Ob.intro (by(try simp only[ByteArray.size_append]);omega) ?_)|refine zG ?_|apply zA|intro h|exact zT));all_goals conv=>whnf
 all_goals first
  |exact hK _ (by simp only[ByteArray.size_append];omega)
def dayL:List ByteArray:=[⟨#[109,111,110]⟩,⟨#[116,117,101]⟩,⟨#[119,101,100]⟩,⟨#[116,104,117]⟩,⟨#[102,114,105]⟩,⟨#[115,97,116]⟩,⟨#[115,117,110]⟩]
theorem aAS{K:KT}(hK:K (.lst (dayL.map mV)) []):AC 274 [] [] K:=by
 refine aDv rfl rfl ?_;(repeat' ((conv=>whnf);first|(refine iT (by rfl) ?_)|refine zG ?_|apply zA|intro h|exact zT));all_goals conv=>whnf
 exact hK
theorem aSb(s:ByteArray){K:KT}(hK:∀r:Int,K (.v (.int .i64 r)) []):AC 305 [.v (.string s)] [] K:=by
 refine aIt rfl rfl ?_;(repeat' ((conv=>whnf);first|(refine iB 0 rfl zo ?_)|(refine iB 1 rfl zo ?_)|(with_reducible first|refine T5 zo fun b=>?_|refine xE fun r=>?_)|refine zG ?_|apply zA|intro h|exact zT));all_goals conv=>whnf
 all_goals first
  |exact hK _
theorem aFl(s:ByteArray){K:KT}(hK:∀r:Int,-1<=r->r<=1440->K (.v (.int .i64 r)) []):AC 281 [.v (.string s)] [] K:=by
 refine Zj rfl rfl ?_;(repeat' ((conv=>whnf);first|(refine iB 2 rfl zo ?_)|(with_reducible first|refine T5 zo fun b=>?_|refine iF 0 2 rfl rfl zo zo ?_|refine iF 3 s.size rfl rfl zo zo ?_|refine aSb _ fun r=>?_|refine jO rfl zo zo ?_)|refine zG ?_|apply zA|intro h|exact zT));all_goals conv=>whnf
 all_goals first
  |exact hK _ zo zo
theorem aFm(s:ByteArray)(c:Int)(hs:s.size<=1000){K:KT}(hK:∀l:List ByteArray,l≠[]->l.length<=2000->K (.lst (l.map mV)) []):AC 279 [.v (.string s),.v (.int .u8 c)] [] K:=by
 refine Mk rfl rfl ?_;(repeat' ((conv=>whnf);first|refine zG ?_|apply zA|intro h|exact zT));all_goals conv=>whnf
 refine gV (List ByteArray×Nat×Nat) (fun g=>⟨1,[(0,.arr 1 (g.1.map mV))],[(0,.v (.string s)),(1,.v (.int .u8 c)),(5,.os 0 1 0 g.1.length),(6,.v (.int .i64 g.2.1)),(7,.v (.int .i64 g.2.2))]⟩)
  (fun g=>g.2.2<=s.size+1/\g.2.1<=g.2.2/\g.1.length<=g.2.2/\(g.2.2=s.size+1->g.1≠[])) (fun g=>s.size+1-g.2.2) ([],0,0) ⟨by simp only;omega,aO _,aO _,fun h=>by simp only at h;omega⟩ ?_ ?_
 ·exact leA
 rintro⟨l,a,i⟩ ⟨h1,h2,h3,h4⟩
 simp only at h1 h2 h3 h4⊢;rcases aD i (s.size+1)with hl|hl
 ·(repeat' ((conv=>whnf);first|(with_reducible first|refine iJ zo ?_|refine T5 zo fun b=>?_|refine iF a i rfl rfl zo zo ?_)|refine zG ?_|apply zA|intro h|exact zT));all_goals conv=>whnf
  all_goals first
   |(refine⟨(l,a,i+1),⟨by simp only;omega,by simp only;omega,by simp only;omega,fun h=>by simp only at h;omega⟩,by simp only;omega,?_⟩
     rw[show(((l,a,i+1):List ByteArray×Nat×Nat).2.2:Int)=(i:Int)+1 from by simp only;omega];exact leA)
   |(refine⟨(l++[s.extract a i],i+1,i+1),⟨by simp only;omega,by simp only;omega,by simp only[aC,aB,aI];omega,fun h=>by simp⟩,by simp only;omega,?_⟩
     simp only[aQ,aC,aR,bI,aB,aI,aN,aM];exact leA)
   |(exfalso;omega)
 ·(repeat' ((conv=>whnf);first|(with_reducible refine iT (aA ..) ?_)|refine zG ?_|apply zA|intro h|exact zT));all_goals conv=>whnf
  exact hK l (h4 zo) zo
theorem aKr(l:List Rg)(hl:l.length<100000){K:KT}(hK:∀s,(s=true↔Canon l/\∀r,r∈l->r.hi<=10079)->K (.sb s) []):AC 222 [iR l] [] K:=by
 refine aIu rfl rfl ?_;(repeat' ((conv=>whnf);first|(with_reducible refine c33 l 10079 hl fun s hs=>?_)|refine zG ?_|apply zA|intro h|exact zT));all_goals conv=>whnf
 exact hK _ hs
theorem Qj{l:List Rg}(h:Canon l){r:Rg}(hr:r∈l):r.lo<=r.hi:=h.1 r hr
def winL:List ByteArray:=[⟨#[109,111,110]⟩,⟨#[116,117,101]⟩,⟨#[115,117,110]⟩,⟨#[109,111,110,45,102,114,105]⟩,⟨#[115,97,116,45,115,117,110]⟩,⟨#[119,101,100,45,119,101,100]⟩]
def houL:List ByteArray:=[⟨#[48,48,58,48,48,45,50,52,58,48,48]⟩,⟨#[48,56,58,48,48,45,49,55,58,48,48]⟩,⟨#[48,56,58,48,48,45,48,56,58,48,49]⟩,⟨#[50,51,58,53,57,45,50,52,58,48,48]⟩,⟨#[49,55,58,48,48,45,49,56,58,51,48]⟩]
abbrev vN(n:Nat):AV:=.v (.int .i64 (n:Int))
theorem Ln(l:List Nat)(n:Nat)(hl:l.length<=1000000){K:KT}(hK:K (.sb (decide (n∈l))) []):AC 226 [.lst (l.map vN),.v (.int .i64 n)] [] K:=by
 refine gZ (aDe rfl rfl ?_);(repeat' ((conv=>whnf);first|refine zG ?_|apply zA|intro h|exact zT));all_goals conv=>whnf
 refine gV Nat (fun i=>⟨0,[],[(0,.lst (l.map vN)),(1,.v (.int .i64 n)),(5,.v (.int .i64 i))]⟩) (fun i=>i<=l.length/\∀(k:Nat) x,k<i->l[k]? =some x->¬x=n) (fun i=>l.length-i) 0 ⟨aK _,fun k x h=>absurd h (bD _)⟩ ?_ ?_
 ·exact leA
 intro i ⟨hi,hin⟩;rcases aD i l.length with hil|hil
 ·obtain⟨x,hx⟩:=gex hil;(repeat' ((conv=>whnf);first|(with_reducible first|refine iI hil ?_|refine iH hx ?_)|refine zG ?_|apply zA|intro h|exact zT));all_goals conv=>whnf
  all_goals first
   |exact kE hK (decide_eq_true (by rw[show n=x by omega];exact aG hx))
   |(refine⟨i+1,⟨hil,iM hx zo hin⟩,by omega,?_⟩
     rw[aN,aM];exact leA)
 ·(repeat' ((conv=>whnf);first|refine zG ?_|apply zA|intro h|exact zT));all_goals conv=>whnf
  refine iU hK (decide_eq_false fun hm=>?_);obtain⟨k,hk⟩:=bH.1 hm;exact iL hil hin k n hk rfl
theorem Nb{p:Int}{K:Int->Prop}(h:K (wu p)):Wr .u32 p K:=Wr.intro rfl h
theorem aRL(x:It){K:KT}(hK:K (iN (iP anB initS [oW x]).1) []):AC 208 [lA x] [] K:=by
 have hq:∀{K:KT},K (.tup [iN (iP anB initS [oW x]).1,.v (.int .i64 (iP anB initS [oW x]).2)]) []->AC 210 [iN initS,.lst [.agg [.v (.int .u32 fullB.r0.lo),.v (.int .u32 fullB.r0.hi),.v (.int .u32 fullB.r1.lo),.v (.int .u32 fullB.r1.hi),.v (.int .u32 (wu x.proto)),.v (.int .u32 (wu x.proto)),.v (.int .u32 fullB.r3.lo),.v (.int .u32 fullB.r3.hi),.v (.int .u32 x.ports.lo),.v (.int .u32 x.ports.hi)]]] [] K:=fun {K} h=>@cr4Int initS [oW x] zd zx K h;refine aDf rfl rfl ?_;(repeat' ((conv=>whnf);first|(with_reducible refine cr3Full ?_)|(refine kH zd ?_)|(with_reducible first|refine Nb ?_|refine N2 ?_)|(refine iT (by rfl) ?_)|(with_reducible refine hq ?_)|refine zG ?_|apply zA|intro h|exact zT));all_goals conv=>whnf
 all_goals exact hK
def aHy(b:UInt8):Bool:=Nat.ble 97 b.toNat&&Nat.ble b.toNat 122
def aHx(b:UInt8):Bool:=aHy b||(Nat.ble 48 b.toNat&&Nat.ble b.toNat 57)||Nat.beq b.toNat 45||Nat.beq b.toNat 95
def uJ(l:List UInt8):Bool:=match l with
 |[]=>false
 |a::r=>aHy a&&(r.all aHx&&(Nat.ble r.length 23&& !(l==[97,110,121])))
theorem Mf{b:UInt8}(h:aHy b=true):nmL (b.toNat:Int):=by
 simp only[aHy,aJ]at h;have h1:=cB h.1;have h2:=cB h.2;unfold nmL;omega
theorem Me{b:UInt8}(h:aHx b=true):nmC (b.toNat:Int):=by
 simp only[aHx,bV,aJ]at h;unfold nmC;rcases h with((h|⟨h1,h2⟩)|h)|h
 ·have:=Mf h;unfold nmL at this;omega
 ·have h1:=cB h1;have h2:=cB h2;omega
 ·have:=aY h;omega
 ·have:=aY h;omega
theorem Uo(l:List UInt8)(h:uJ l=true):qF ⟨⟨l⟩⟩:=by
 cases l with
 |nil=>cases h
 |cons a r=>
  simp only[uJ,aJ,bT,dX]at h;obtain⟨h1,h2,h3,h4⟩:=h;have h3:=cB h3;have hget:∀(i:Nat) b,(⟨⟨a::r⟩⟩:ByteArray)[i]? =some b->(a::r)[i]? =some b:=by
   intro i b hb;by_cases h:i<(⟨⟨a::r⟩⟩:ByteArray).size
   ·rw[getElem?_pos _ i h]at hb;have h':i<(a::r).length:=h;rw[aE h'];exact hb
   ·rw[getElem?_neg _ i h]at hb;cases hb
  refine⟨?_,?_,?_,fun b hb=>?_,fun i b hb=>?_⟩
  ·rw[ByteArray.toList_eq,ByteArray.toList_eq];rfl
  ·show(((a::r).length:Nat):Int)<=24;simp;omega
  ·rw[ByteArray.toList_eq,ByteArray.toList_eq];exact h4
  ·have:=hget 0 b hb;simp at this;subst this;exact Mf h1
  ·have:=hget i b hb;cases i with
   |zero=>simp at this;subst this;exact Me (by simp[aHx,h1])
   |succ i=>exact Me (h2 b (aG (by simpa using this)))
theorem nJ(a b:ByteArray):sEq a b=(a.data.toList==b.data.toList):=by rw[sEq,ByteArray.toList_eq,ByteArray.toList_eq]
theorem mN{s:ByteArray}(h:uJ s.data.toList=true):qF s:=by
 obtain⟨⟨l⟩⟩:=s;exact Uo l h
def aOn:Ctx:={N:=28,own:=oz [262],hints:=h1 2 [.virtB 1 0 10] hn}
abbrev aJk:=ofD aOn Tryz.func190
def aHd:Ctx:={N:=31,np:=2,out:=true}
abbrev aEf:=ofD aHd Tryz.func262
def aUT:Ctx:={N:=26,plan:=p1 6 Aa pn}
abbrev aQK:=ofD aUT Tryz.func299
def aUP:Ctx:={N:=170,plan:=p1 13 (lp 13 [26,28]) (p1 14 (lp 6 [15,17,19,21,25,27,12,22,28,31,33,35,37,39]) (p1 19 (lp 23 [46,49]) pn)),hints:=h1 8 [.virt 12 3] hn,cut:=oz [7]}
abbrev aEc:=ofD aUP Tryz.func269
def aHe:Ctx:={N:=28,own:=oz [296]}
abbrev aEg:=ofD aHe Tryz.func298
def aOj:Ctx:={N:=20}
abbrev aJg:=ofD aOj Tryz.func217
def aUX:Ctx:={N:=11}
abbrev aQO:=ofD aUX Tryz.func216
def aWB:Ctx:={N:=33}
abbrev aVK:=ofD aWB Tryz.func138
def aOo:Ctx:={N:=29,hints:=h1 2 [.asL 4] hn}
abbrev aJl:=ofD aOo Tryz.func214
def aOq:Ctx:={N:=18}
abbrev aJn:=ofD aOq Tryz.func212
def aUS:Ctx:={N:=86,plan:=p1 6 (lo 18) (p1 8 (lz [1,3,5,7,9,11,13,15,17] (.alt 9 (ln [21,22,24]) (.alt 11 (ln [18,21,24]) Ab))) (p1 14 (ln [1,3,5,7,8,11]) pn)),cut:=oz [8,9]}
abbrev aEe:=ofD aUS Tryz.func268
def aUW:Ctx:={N:=11}
abbrev aQN:=ofD aUW Tryz.func192
def aWC:Ctx:={N:=11}
abbrev aVL:=ofD aWC Tryz.func193
def aUY:Ctx:={N:=11}
abbrev aQP:=ofD aUY Tryz.func78
def aOr:Ctx:={N:=17}
abbrev aJo:=ofD aOr Tryz.func105
def aUU:Ctx:={N:=17}
abbrev aQL:=ofD aUU Tryz.func172
def aOs:Ctx:={N:=29}
abbrev aJp:=ofD aOs Tryz.func107
def aUZ:Ctx:={N:=12}
abbrev aQQ:=ofD aUZ Tryz.func231
def aOm:Ctx:={N:=15}
abbrev aJj:=ofD aOm Tryz.func51
def aOh:Ctx:={N:=24,plan:=p1 4 (lo 13) pn}
abbrev aJe:=ofD aOh Tryz.func104
def aUQ:Ctx:={N:=36,hints:=h1 2 [.virt 7 10] hn}
abbrev aQI:=ofD aUQ Tryz.func301
def aCg:Ctx:={N:=9}
abbrev Zt:=ofD aCg Tryz.func264
def aOi:Ctx:={N:=9}
abbrev aJf:=ofD aOi Tryz.func263
def aOt:Ctx:={N:=10}
abbrev aJq:=ofD aOt Tryz.func139
def aOk:Ctx:={N:=47,own:=oz [311,312],plan:=p1 8 (lp 12 [24,26,29]) pn}
abbrev aJh:=ofD aOk Tryz.func300
def aOp:Ctx:={N:=6}
abbrev aJm:=ofD aOp Tryz.func297
def aUV:Ctx:={N:=19}
abbrev aQM:=ofD aUV Tryz.func310
def aHc:Ctx:={N:=8,res:=true}
abbrev aEd:=ofD aHc Tryz.func296
def aUR:Ctx:={N:=42,np:=1,res:=true,lend:=oz [310]}
abbrev aQJ:=ofD aUR Tryz.func295
def aVa:Ctx:={N:=6,own:=oz [296,295]}
abbrev aQR:=ofD aVa Tryz.func267
def aOl:Ctx:={N:=42}
abbrev aJi:=ofD aOl Tryz.func295
end Go.Proofs.YtgicddadddhonaaGreatDoor
