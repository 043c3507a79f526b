/- Lemmas. -/
import Derived.Test.YtgicddadddhonaaGreatDoorProg
import Derived.Test.YtgicddadddhonaaGreatDoorM25
set_option linter.unusedVariables false
set_option linter.unusedSimpArgs false
set_option maxRecDepth 100000
set_option maxHeartbeats 4000000
noncomputable section
namespace Go.Proofs.YtgicddadddhonaaGreatDoor
open Go Go.Vm
def aTq:Ctx:={N:=13}
abbrev aPn:=ofD aTq Tryz.func306
def aNb:Ctx:={N:=11}
abbrev aIb:=ofD aNb Tryz.func289
def aML:Ctx:={N:=69,plan:=p1 15 (lp 8 [21,23,25,27,29,31,33,16,19,34,37,38,40,43]) pn,hints:=h1 6 [.virt 3 1] hn,cut:=oz [9,15]}
abbrev aHL:=ofD aML Tryz.func251
def aTe:Ctx:={N:=9}
abbrev aPb:=ofD aTe Tryz.func255
def aTh:Ctx:={N:=35}
abbrev aPe:=ofD aTh Tryz.func286
def aMD:Ctx:={N:=78}
abbrev aHD:=ofD aMD Tryz.func250
def aMC:Ctx:={N:=8}
abbrev aHC:=ofD aMC Tryz.func249
def aGd:Ctx:={N:=8}
abbrev aDi:=ofD aGd Tryz.func285
def aMB:Ctx:={N:=56,cut:=oz [6]}
abbrev aHB:=ofD aMB Tryz.func176
def aTj:Ctx:={N:=8}
abbrev aPg:=ofD aTj Tryz.func179
def aMG:Ctx:={N:=8}
abbrev aHG:=ofD aMG Tryz.func253
def aTg:Ctx:={N:=19}
abbrev aPd:=ofD aTg Tryz.func252
def aTk:Ctx:={N:=18}
abbrev aPh:=ofD aTk Tryz.func177
def aWs:Ctx:={N:=62}
abbrev aVB:=ofD aWs Tryz.func183
def aME:Ctx:={N:=9}
abbrev aHE:=ofD aME Tryz.func180
def aMF:Ctx:={N:=6}
abbrev aHF:=ofD aMF Tryz.func182
def aTf:Ctx:={N:=19}
abbrev aPc:=ofD aTf Tryz.func254
def aTd:Ctx:={N:=9}
abbrev aPa:=ofD aTd Tryz.func181
def aTi:Ctx:={N:=157,cut:=oz [3]}
abbrev aPf:=ofD aTi Tryz.func110
section
variable {I:List (Int×Rg)} {X:List Bx}
theorem vals(p:Nat->Int)(e:Int):aRh p 2 e 2=e/\aRh p 2 e 3=p 3/\aRh p 2 e 4=p 4:=⟨rfl,rfl,rfl⟩
end
/-! ### Two boxes joined -/
/-! ### Pairs of what is cut by ranges -/
section
variable {t:Tp} {i:Nt} {A:List Bx}
end
/-! ### Sums over all pairs -/
/-! ### Real headers and two boxes -/
/-! ### All pairs -/
theorem aWh{p:Int}(h0:0<=p)(h1:p<=4294967295):wu p=p:=by
 unfold wu;simp only[IntKind.wrap,IntKind.signed,IntKind.bits];simp;omega
def aUk:Ctx:={N:=9}
abbrev aQf:=ofD aUk Tryz.func195
def aNG:Ctx:={N:=9}
abbrev aIE:=ofD aNG Tryz.func196
def aUl:Ctx:={N:=9}
abbrev aQg:=ofD aUl Tryz.func197
def aNH:Ctx:={N:=9}
abbrev aIF:=ofD aNH Tryz.func198
def aUm:Ctx:={N:=39,plan:=p1 9 Bi pn,hints:=h1 2 [.virt 6 10] hn}
abbrev aQh:=ofD aUm Tryz.func194
def aUp:Ctx:={N:=111,cut:=oz [18]}
abbrev aQk:=ofD aUp Tryz.func113
def aGL:Ctx:={N:=33,lend:=oz [195,197]}
abbrev aDM:=ofD aGL Tryz.func114
def aGH:Ctx:={N:=131}
abbrev aDI:=ofD aGH Tryz.func58
def aMA:Ctx:={N:=79,np:=1,own:=oz [14,40],plan:=gvNear.plan,cut:=oz [9]}
abbrev aHA:=ofD aMA Tryz.func15
theorem N9(raw:List Int)(pos:Nat)(l:List Bx)(hl:l.length<=1000000)(hp:pos<=raw.length)(hr:raw.length<=9223372036854775807){K:KT}
  (hK:∀(h:Hd) (pos':Nat),h.Ok->pos'<=raw.length->K (lC h) [iO raw pos']):AC 15 [.op 0 0,iN l] [iO raw pos] K:=by
 refine aHA rfl rfl ?_;(repeat' ((conv=>whnf);first|(with_reducible first|refine jI raw _ _ (by(try simp only[aA]);omega) zw hr fun m1 p1 hm1 hp1=>?_|refine iJ (by simp only[aA]at*;omega) ?_|refine iK (f:=iV) (by simp only[aA]at*;omega) fun w hw=>?_|refine cvHdr raw _ zp hr fun h p2 ho hp2=>?_)|refine zG ?_|apply zA|intro h|exact zT));all_goals conv=>whnf
 all_goals first
  |exact hK _ _ zp zp
  |skip
 have b0:=And.intro (Rg.l0 w.r0) (Rg.l1 w.r0);have c0:=And.intro (Rg.h0 w.r0) (Rg.h1 w.r0);have b1:=And.intro (Rg.l0 w.r1) (Rg.l1 w.r1);have c1:=And.intro (Rg.h0 w.r1) (Rg.h1 w.r1);have b2:=And.intro (Rg.l0 w.r2) (Rg.l1 w.r2);have c2:=And.intro (Rg.h0 w.r2) (Rg.h1 w.r2);have b3:=And.intro (Rg.l0 w.r3) (Rg.l1 w.r3);have c3:=And.intro (Rg.h0 w.r3) (Rg.h1 w.r3);have b4:=And.intro (Rg.l0 w.r4) (Rg.l1 w.r4);have c4:=And.intro (Rg.h0 w.r4) (Rg.h1 w.r4);refine Lp.times 6 ?_;(repeat' ((conv=>whnf);first|(with_reducible first|refine jI raw _ _ zo zp hr fun m1 p1 hm1 hp1=>?_|refine cvHdr raw _ zp hr fun h p2 ho hp2=>?_)|(refine kH zd ?_)|(with_reducible first|refine iJ zo ?_|refine jD fun r r0 r1=>?_)|(refine iC (by exact rfl) ?_)|(with_reducible first|refine pJ _ ?_|refine Iv _ _ _ _ _ zo zo zo zo fun g ho=>?_)|(refine Jt zo ⟨by omega,by omega,⟨by assumption,by assumption⟩,⟨by assumption,by assumption⟩,⟨by assumption,by assumption⟩⟩ fun y y0 y1=>?_)|refine zG ?_|apply zA|intro h|exact zT));all_goals conv=>whnf
 refine iD (Nat×Int) (fun g=>⟨4,[(0,iO raw g.1),(1,.box [.v (.int .u32 0),.v (.int .u32 0),.v (.int .u8 0),.v (.int .u16 0),.v (.int .u16 0)]),(2,.box (Yf w)),(3,.box [.v (.int .u32 g.2),.v (.int .u32 0),.v (.int .u32 0),.v (.int .u32 0),.v (.int .u32 0)])],[(0,.op 0 0),(4,.op 1 0),(5,.op 2 0),(6,.op 3 0),(7,.v (.int .i64 0))]⟩) (fun g=>g.1<=raw.length/\0<=g.2/\g.2<=4294967295) ?_ ?_
 ·(repeat' ((conv=>whnf);first|(with_reducible first|refine jI raw _ _ zo zp hr fun m1 p1 hm1 hp1=>?_|refine cvHdr raw _ zp hr fun h p2 ho hp2=>?_)|(refine kH zd ?_)|(with_reducible first|refine iJ zo ?_|refine jD fun r r0 r1=>?_)|(refine iC (by exact rfl) ?_)|(with_reducible first|refine pJ _ ?_|refine Iv _ _ _ _ _ zo zo zo zo fun g ho=>?_)|(refine Jt zo ⟨by omega,by omega,⟨by assumption,by assumption⟩,⟨by assumption,by assumption⟩,⟨by assumption,by assumption⟩⟩ fun y y0 y1=>?_)|refine zG ?_|apply zA|intro h|exact zT));all_goals conv=>whnf
  all_goals
   refine⟨(p1,y),⟨hp1,y0,y1⟩,?_⟩;exact leA
 rintro⟨q0,y0⟩ ⟨hq0,l0,u0⟩
 simp only at hq0 l0 u0⊢;(repeat' ((conv=>whnf);first|(with_reducible first|refine jI raw _ _ zo zp hr fun m1 p1 hm1 hp1=>?_|refine cvHdr raw _ zp hr fun h p2 ho hp2=>?_)|(refine kH zd ?_)|(with_reducible first|refine iJ zo ?_|refine jD fun r r0 r1=>?_)|(refine iC (by exact rfl) ?_)|(with_reducible first|refine pJ _ ?_|refine Iv _ _ _ _ _ zo zo zo zo fun g ho=>?_)|(refine Jt zo ⟨by omega,by omega,⟨by assumption,by assumption⟩,⟨by assumption,by assumption⟩,⟨by assumption,by assumption⟩⟩ fun y y0 y1=>?_)|refine zG ?_|apply zA|intro h|exact zT));all_goals conv=>whnf
 refine iD (Nat×Int) (fun g=>⟨4,[(0,iO raw g.1),(1,.box [.v (.int .u32 0),.v (.int .u32 0),.v (.int .u8 0),.v (.int .u16 0),.v (.int .u16 0)]),(2,.box (Yf w)),(3,.box [.v (.int .u32 (min y0 (pU 0))),.v (.int .u32 g.2),.v (.int .u32 0),.v (.int .u32 0),.v (.int .u32 0)])],[(0,.op 0 0),(4,.op 1 0),(5,.op 2 0),(6,.op 3 0),(7,.v (.int .i64 1))]⟩) (fun g=>g.1<=raw.length/\0<=g.2/\g.2<=4294967295) ?_ ?_
 ·(repeat' ((conv=>whnf);first|(with_reducible first|refine jI raw _ _ zo zp hr fun m1 p1 hm1 hp1=>?_|refine cvHdr raw _ zp hr fun h p2 ho hp2=>?_)|(refine kH zd ?_)|(with_reducible first|refine iJ zo ?_|refine jD fun r r0 r1=>?_)|(refine iC (by exact rfl) ?_)|(with_reducible first|refine pJ _ ?_|refine Iv _ _ _ _ _ zo zo zo zo fun g ho=>?_)|(refine Jt zo ⟨by omega,by omega,⟨by assumption,by assumption⟩,⟨by assumption,by assumption⟩,⟨by assumption,by assumption⟩⟩ fun y y0 y1=>?_)|refine zG ?_|apply zA|intro h|exact zT));all_goals conv=>whnf
  all_goals
   refine⟨(p1,y),⟨hp1,y0,y1⟩,?_⟩;exact leA
 rintro⟨q1,y1⟩ ⟨hq1,l1,u1⟩
 simp only at hq1 l1 u1⊢;(repeat' ((conv=>whnf);first|(with_reducible first|refine jI raw _ _ zo zp hr fun m1 p1 hm1 hp1=>?_|refine cvHdr raw _ zp hr fun h p2 ho hp2=>?_)|(refine kH zd ?_)|(with_reducible first|refine iJ zo ?_|refine jD fun r r0 r1=>?_)|(refine iC (by exact rfl) ?_)|(with_reducible first|refine pJ _ ?_|refine Iv _ _ _ _ _ zo zo zo zo fun g ho=>?_)|(refine Jt zo ⟨by omega,by omega,⟨by assumption,by assumption⟩,⟨by assumption,by assumption⟩,⟨by assumption,by assumption⟩⟩ fun y y0 y1=>?_)|refine zG ?_|apply zA|intro h|exact zT));all_goals conv=>whnf
 refine iD (Nat×Int) (fun g=>⟨4,[(0,iO raw g.1),(1,.box [.v (.int .u32 0),.v (.int .u32 0),.v (.int .u8 0),.v (.int .u16 0),.v (.int .u16 0)]),(2,.box (Yf w)),(3,.box [.v (.int .u32 (min y0 (pU 0))),.v (.int .u32 (min y1 (pU 1))),.v (.int .u32 g.2),.v (.int .u32 0),.v (.int .u32 0)])],[(0,.op 0 0),(4,.op 1 0),(5,.op 2 0),(6,.op 3 0),(7,.v (.int .i64 2))]⟩) (fun g=>g.1<=raw.length/\0<=g.2/\g.2<=4294967295) ?_ ?_
 ·(repeat' ((conv=>whnf);first|(with_reducible first|refine jI raw _ _ zo zp hr fun m1 p1 hm1 hp1=>?_|refine cvHdr raw _ zp hr fun h p2 ho hp2=>?_)|(refine kH zd ?_)|(with_reducible first|refine iJ zo ?_|refine jD fun r r0 r1=>?_)|(refine iC (by exact rfl) ?_)|(with_reducible first|refine pJ _ ?_|refine Iv _ _ _ _ _ zo zo zo zo fun g ho=>?_)|(refine Jt zo ⟨by omega,by omega,⟨by assumption,by assumption⟩,⟨by assumption,by assumption⟩,⟨by assumption,by assumption⟩⟩ fun y y0 y1=>?_)|refine zG ?_|apply zA|intro h|exact zT));all_goals conv=>whnf
  all_goals
   refine⟨(p1,y),⟨hp1,y0,y1⟩,?_⟩;exact leA
 rintro⟨q2,y2⟩ ⟨hq2,l2,u2⟩
 simp only at hq2 l2 u2⊢;(repeat' ((conv=>whnf);first|(with_reducible first|refine jI raw _ _ zo zp hr fun m1 p1 hm1 hp1=>?_|refine cvHdr raw _ zp hr fun h p2 ho hp2=>?_)|(refine kH zd ?_)|(with_reducible first|refine iJ zo ?_|refine jD fun r r0 r1=>?_)|(refine iC (by exact rfl) ?_)|(with_reducible first|refine pJ _ ?_|refine Iv _ _ _ _ _ zo zo zo zo fun g ho=>?_)|(refine Jt zo ⟨by omega,by omega,⟨by assumption,by assumption⟩,⟨by assumption,by assumption⟩,⟨by assumption,by assumption⟩⟩ fun y y0 y1=>?_)|refine zG ?_|apply zA|intro h|exact zT));all_goals conv=>whnf
 refine iD (Nat×Int) (fun g=>⟨4,[(0,iO raw g.1),(1,.box [.v (.int .u32 0),.v (.int .u32 0),.v (.int .u8 0),.v (.int .u16 0),.v (.int .u16 0)]),(2,.box (Yf w)),(3,.box [.v (.int .u32 (min y0 (pU 0))),.v (.int .u32 (min y1 (pU 1))),.v (.int .u32 (min y2 (pU 2))),.v (.int .u32 g.2),.v (.int .u32 0)])],[(0,.op 0 0),(4,.op 1 0),(5,.op 2 0),(6,.op 3 0),(7,.v (.int .i64 3))]⟩) (fun g=>g.1<=raw.length/\0<=g.2/\g.2<=4294967295) ?_ ?_
 ·(repeat' ((conv=>whnf);first|(with_reducible first|refine jI raw _ _ zo zp hr fun m1 p1 hm1 hp1=>?_|refine cvHdr raw _ zp hr fun h p2 ho hp2=>?_)|(refine kH zd ?_)|(with_reducible first|refine iJ zo ?_|refine jD fun r r0 r1=>?_)|(refine iC (by exact rfl) ?_)|(with_reducible first|refine pJ _ ?_|refine Iv _ _ _ _ _ zo zo zo zo fun g ho=>?_)|(refine Jt zo ⟨by omega,by omega,⟨by assumption,by assumption⟩,⟨by assumption,by assumption⟩,⟨by assumption,by assumption⟩⟩ fun y y0 y1=>?_)|refine zG ?_|apply zA|intro h|exact zT));all_goals conv=>whnf
  all_goals
   refine⟨(p1,y),⟨hp1,y0,y1⟩,?_⟩;exact leA
 rintro⟨q3,y3⟩ ⟨hq3,l3,u3⟩
 simp only at hq3 l3 u3⊢;(repeat' ((conv=>whnf);first|(with_reducible first|refine jI raw _ _ zo zp hr fun m1 p1 hm1 hp1=>?_|refine cvHdr raw _ zp hr fun h p2 ho hp2=>?_)|(refine kH zd ?_)|(with_reducible first|refine iJ zo ?_|refine jD fun r r0 r1=>?_)|(refine iC (by exact rfl) ?_)|(with_reducible first|refine pJ _ ?_|refine Iv _ _ _ _ _ zo zo zo zo fun g ho=>?_)|(refine Jt zo ⟨by omega,by omega,⟨by assumption,by assumption⟩,⟨by assumption,by assumption⟩,⟨by assumption,by assumption⟩⟩ fun y y0 y1=>?_)|refine zG ?_|apply zA|intro h|exact zT));all_goals conv=>whnf
 refine iD (Nat×Int) (fun g=>⟨4,[(0,iO raw g.1),(1,.box [.v (.int .u32 0),.v (.int .u32 0),.v (.int .u8 0),.v (.int .u16 0),.v (.int .u16 0)]),(2,.box (Yf w)),(3,.box [.v (.int .u32 (min y0 (pU 0))),.v (.int .u32 (min y1 (pU 1))),.v (.int .u32 (min y2 (pU 2))),.v (.int .u32 (min y3 (pU 3))),.v (.int .u32 g.2)])],[(0,.op 0 0),(4,.op 1 0),(5,.op 2 0),(6,.op 3 0),(7,.v (.int .i64 4))]⟩) (fun g=>g.1<=raw.length/\0<=g.2/\g.2<=4294967295) ?_ ?_
 ·(repeat' ((conv=>whnf);first|(with_reducible first|refine jI raw _ _ zo zp hr fun m1 p1 hm1 hp1=>?_|refine cvHdr raw _ zp hr fun h p2 ho hp2=>?_)|(refine kH zd ?_)|(with_reducible first|refine iJ zo ?_|refine jD fun r r0 r1=>?_)|(refine iC (by exact rfl) ?_)|(with_reducible first|refine pJ _ ?_|refine Iv _ _ _ _ _ zo zo zo zo fun g ho=>?_)|(refine Jt zo ⟨by omega,by omega,⟨by assumption,by assumption⟩,⟨by assumption,by assumption⟩,⟨by assumption,by assumption⟩⟩ fun y y0 y1=>?_)|refine zG ?_|apply zA|intro h|exact zT));all_goals conv=>whnf
  all_goals
   refine⟨(p1,y),⟨hp1,y0,y1⟩,?_⟩;exact leA
 rintro⟨q4,y4⟩ ⟨hq4,l4,u4⟩
 simp only at hq4 l4 u4⊢;have e0:pU 0=4294967295:=by decide
 have e1:pU 1=4294967295:=by decide
 have e2:pU 2=255:=by decide
 have e3:pU 3=65535:=by decide
 have e4:pU 4=65535:=by decide
 (repeat' ((conv=>whnf);first|(with_reducible first|refine jI raw _ _ zo zp hr fun m1 p1 hm1 hp1=>?_|refine cvHdr raw _ zp hr fun h p2 ho hp2=>?_)|(refine kH zd ?_)|(with_reducible first|refine iJ zo ?_|refine jD fun r r0 r1=>?_)|(refine iC (by exact rfl) ?_)|(with_reducible first|refine pJ _ ?_|refine Iv _ _ _ _ _ zo zo zo zo fun g ho=>?_)|(refine Jt zo ⟨by omega,by omega,⟨by assumption,by assumption⟩,⟨by assumption,by assumption⟩,⟨by assumption,by assumption⟩⟩ fun y y0 y1=>?_)|refine zG ?_|apply zA|intro h|exact zT));all_goals conv=>whnf
 exact hK _ _ zp zp
theorem Gt{α:Type}{p:α->Bool}{l:List α}{k:Nat}(h:jM p l=k):∃x,l[k]? =some x/\p x=true:=by
 unfold jM at h;split at h
 ·rename_i i hi;obtain rfl:i=k:=by omega
  obtain⟨h1,h2,_⟩:=dS.1 hi;exact⟨_,aE h1,h2⟩
 ·omega
end Go.Proofs.YtgicddadddhonaaGreatDoor
