/- Lemmas. -/
import Derived.Test.YtnomkooikbhgmaaGreatDoorProg
import Derived.Sort.AssemblyPlain
import Derived.Test.YtnomkooikbhgmaaGreatDoorK26
set_option linter.unusedVariables false
set_option linter.unusedSimpArgs false
set_option maxRecDepth 100000
set_option maxHeartbeats 4000000
noncomputable section
namespace Go.Proofs.YtnomkooikbhgmaaGreatDoor
open Go Go.Vm
/-! ### Two boxes joined -/
/-! ### Pairs of what is cut by ranges -/
section
variable {t:Tp} {i:Nt} {A:List Bx}
end
/-! ### Sums over all pairs -/
/-! ### Real headers and two boxes -/
/-! ### All pairs -/
theorem aUf{p:Int}(h0:0<=p)(h1:p<=4294967295):wu p=p:=by
 unfold wu;simp only[IntKind.wrap,IntKind.signed,IntKind.bits];simp;omega
def aLG:Ctx:={N:=79,np:=1,own:=oz [11,108],plan:=gvNear.plan,cut:=oz [9]}
abbrev aGx:=ofD aLG Tryz.func52
theorem aLt(raw:List Int)(pos:Nat)(l:List Bx)(hl:l.length<=1000000)(hp:pos<=raw.length)(hr:raw.length<=9223372036854775807){K:KT}
  (hK:∀(h:Hd) (pos':Nat),h.Ok->pos'<=raw.length->K (mR h) [iI raw pos']):AC 52 [.op 0 0,iE l] [iI raw pos] K:=by
 refine aGx rfl rfl ?_;(repeat' ((conv=>whnf);first|(with_reducible first|refine jF raw _ _ (by(try simp only[aA]);omega) zw hr fun m1 p1 hm1 hp1=>?_|refine iA (by simp only[aA]at*;omega) ?_|refine iB (f:=iY) (by simp only[aA]at*;omega) fun w hw=>?_|refine vP raw _ zp hr fun h p2 ho hp2=>?_)|refine zG ?_|apply zA|intro h|exact zT));all_goals conv=>whnf
 all_goals first
  |exact hK _ _ zp zp
  |skip
 have b0:=And.intro (Rg.l0 w.r0) (Rg.l1 w.r0);have c0:=And.intro (Rg.h0 w.r0) (Rg.h1 w.r0);have b1:=And.intro (Rg.l0 w.r1) (Rg.l1 w.r1);have c1:=And.intro (Rg.h0 w.r1) (Rg.h1 w.r1);have b2:=And.intro (Rg.l0 w.r2) (Rg.l1 w.r2);have c2:=And.intro (Rg.h0 w.r2) (Rg.h1 w.r2);have b3:=And.intro (Rg.l0 w.r3) (Rg.l1 w.r3);have c3:=And.intro (Rg.h0 w.r3) (Rg.h1 w.r3);have b4:=And.intro (Rg.l0 w.r4) (Rg.l1 w.r4);have c4:=And.intro (Rg.h0 w.r4) (Rg.h1 w.r4);refine Lp.times 6 ?_;(repeat' ((conv=>whnf);first|(with_reducible first|refine jF raw _ _ zo zp hr fun m1 p1 hm1 hp1=>?_|refine vP raw _ zp hr fun h p2 ho hp2=>?_)|(refine kP zd ?_)|(with_reducible first|refine iA zo ?_|refine iU fun r r0 r1=>?_)|(refine gV (by exact rfl) ?_)|(with_reducible first|refine pI _ ?_|refine Iq _ _ _ _ _ zo zo zo zo fun g ho=>?_)|(refine Jm zo ⟨by omega,by omega,⟨by assumption,by assumption⟩,⟨by assumption,by assumption⟩,⟨by assumption,by assumption⟩⟩ fun y y0 y1=>?_)|refine zG ?_|apply zA|intro h|exact zT));all_goals conv=>whnf
 refine gY (Nat×Int) (fun g=>⟨4,[(0,iI raw g.1),(1,.box [.v (.int .u32 0),.v (.int .u32 0),.v (.int .u8 0),.v (.int .u16 0),.v (.int .u16 0)]),(2,.box (aAb w)),(3,.box [.v (.int .u32 g.2),.v (.int .u32 0),.v (.int .u32 0),.v (.int .u32 0),.v (.int .u32 0)])],[(0,.op 0 0),(4,.op 1 0),(5,.op 2 0),(6,.op 3 0),(7,.v (.int .i64 0))]⟩) (fun g=>g.1<=raw.length/\0<=g.2/\g.2<=4294967295) ?_ ?_
 ·(repeat' ((conv=>whnf);first|(with_reducible first|refine jF raw _ _ zo zp hr fun m1 p1 hm1 hp1=>?_|refine vP raw _ zp hr fun h p2 ho hp2=>?_)|(refine kP zd ?_)|(with_reducible first|refine iA zo ?_|refine iU fun r r0 r1=>?_)|(refine gV (by exact rfl) ?_)|(with_reducible first|refine pI _ ?_|refine Iq _ _ _ _ _ zo zo zo zo fun g ho=>?_)|(refine Jm zo ⟨by omega,by omega,⟨by assumption,by assumption⟩,⟨by assumption,by assumption⟩,⟨by assumption,by assumption⟩⟩ fun y y0 y1=>?_)|refine zG ?_|apply zA|intro h|exact zT));all_goals conv=>whnf
  all_goals
   refine⟨(p1,y),⟨hp1,y0,y1⟩,?_⟩;exact leA
 rintro⟨q0,y0⟩ ⟨hq0,l0,u0⟩
 simp only at hq0 l0 u0⊢;(repeat' ((conv=>whnf);first|(with_reducible first|refine jF raw _ _ zo zp hr fun m1 p1 hm1 hp1=>?_|refine vP raw _ zp hr fun h p2 ho hp2=>?_)|(refine kP zd ?_)|(with_reducible first|refine iA zo ?_|refine iU fun r r0 r1=>?_)|(refine gV (by exact rfl) ?_)|(with_reducible first|refine pI _ ?_|refine Iq _ _ _ _ _ zo zo zo zo fun g ho=>?_)|(refine Jm zo ⟨by omega,by omega,⟨by assumption,by assumption⟩,⟨by assumption,by assumption⟩,⟨by assumption,by assumption⟩⟩ fun y y0 y1=>?_)|refine zG ?_|apply zA|intro h|exact zT));all_goals conv=>whnf
 refine gY (Nat×Int) (fun g=>⟨4,[(0,iI raw g.1),(1,.box [.v (.int .u32 0),.v (.int .u32 0),.v (.int .u8 0),.v (.int .u16 0),.v (.int .u16 0)]),(2,.box (aAb w)),(3,.box [.v (.int .u32 (min y0 (pT 0))),.v (.int .u32 g.2),.v (.int .u32 0),.v (.int .u32 0),.v (.int .u32 0)])],[(0,.op 0 0),(4,.op 1 0),(5,.op 2 0),(6,.op 3 0),(7,.v (.int .i64 1))]⟩) (fun g=>g.1<=raw.length/\0<=g.2/\g.2<=4294967295) ?_ ?_
 ·(repeat' ((conv=>whnf);first|(with_reducible first|refine jF raw _ _ zo zp hr fun m1 p1 hm1 hp1=>?_|refine vP raw _ zp hr fun h p2 ho hp2=>?_)|(refine kP zd ?_)|(with_reducible first|refine iA zo ?_|refine iU fun r r0 r1=>?_)|(refine gV (by exact rfl) ?_)|(with_reducible first|refine pI _ ?_|refine Iq _ _ _ _ _ zo zo zo zo fun g ho=>?_)|(refine Jm zo ⟨by omega,by omega,⟨by assumption,by assumption⟩,⟨by assumption,by assumption⟩,⟨by assumption,by assumption⟩⟩ fun y y0 y1=>?_)|refine zG ?_|apply zA|intro h|exact zT));all_goals conv=>whnf
  all_goals
   refine⟨(p1,y),⟨hp1,y0,y1⟩,?_⟩;exact leA
 rintro⟨q1,y1⟩ ⟨hq1,l1,u1⟩
 simp only at hq1 l1 u1⊢;(repeat' ((conv=>whnf);first|(with_reducible first|refine jF raw _ _ zo zp hr fun m1 p1 hm1 hp1=>?_|refine vP raw _ zp hr fun h p2 ho hp2=>?_)|(refine kP zd ?_)|(with_reducible first|refine iA zo ?_|refine iU fun r r0 r1=>?_)|(refine gV (by exact rfl) ?_)|(with_reducible first|refine pI _ ?_|refine Iq _ _ _ _ _ zo zo zo zo fun g ho=>?_)|(refine Jm zo ⟨by omega,by omega,⟨by assumption,by assumption⟩,⟨by assumption,by assumption⟩,⟨by assumption,by assumption⟩⟩ fun y y0 y1=>?_)|refine zG ?_|apply zA|intro h|exact zT));all_goals conv=>whnf
 refine gY (Nat×Int) (fun g=>⟨4,[(0,iI raw g.1),(1,.box [.v (.int .u32 0),.v (.int .u32 0),.v (.int .u8 0),.v (.int .u16 0),.v (.int .u16 0)]),(2,.box (aAb w)),(3,.box [.v (.int .u32 (min y0 (pT 0))),.v (.int .u32 (min y1 (pT 1))),.v (.int .u32 g.2),.v (.int .u32 0),.v (.int .u32 0)])],[(0,.op 0 0),(4,.op 1 0),(5,.op 2 0),(6,.op 3 0),(7,.v (.int .i64 2))]⟩) (fun g=>g.1<=raw.length/\0<=g.2/\g.2<=4294967295) ?_ ?_
 ·(repeat' ((conv=>whnf);first|(with_reducible first|refine jF raw _ _ zo zp hr fun m1 p1 hm1 hp1=>?_|refine vP raw _ zp hr fun h p2 ho hp2=>?_)|(refine kP zd ?_)|(with_reducible first|refine iA zo ?_|refine iU fun r r0 r1=>?_)|(refine gV (by exact rfl) ?_)|(with_reducible first|refine pI _ ?_|refine Iq _ _ _ _ _ zo zo zo zo fun g ho=>?_)|(refine Jm zo ⟨by omega,by omega,⟨by assumption,by assumption⟩,⟨by assumption,by assumption⟩,⟨by assumption,by assumption⟩⟩ fun y y0 y1=>?_)|refine zG ?_|apply zA|intro h|exact zT));all_goals conv=>whnf
  all_goals
   refine⟨(p1,y),⟨hp1,y0,y1⟩,?_⟩;exact leA
 rintro⟨q2,y2⟩ ⟨hq2,l2,u2⟩
 simp only at hq2 l2 u2⊢;(repeat' ((conv=>whnf);first|(with_reducible first|refine jF raw _ _ zo zp hr fun m1 p1 hm1 hp1=>?_|refine vP raw _ zp hr fun h p2 ho hp2=>?_)|(refine kP zd ?_)|(with_reducible first|refine iA zo ?_|refine iU fun r r0 r1=>?_)|(refine gV (by exact rfl) ?_)|(with_reducible first|refine pI _ ?_|refine Iq _ _ _ _ _ zo zo zo zo fun g ho=>?_)|(refine Jm zo ⟨by omega,by omega,⟨by assumption,by assumption⟩,⟨by assumption,by assumption⟩,⟨by assumption,by assumption⟩⟩ fun y y0 y1=>?_)|refine zG ?_|apply zA|intro h|exact zT));all_goals conv=>whnf
 refine gY (Nat×Int) (fun g=>⟨4,[(0,iI raw g.1),(1,.box [.v (.int .u32 0),.v (.int .u32 0),.v (.int .u8 0),.v (.int .u16 0),.v (.int .u16 0)]),(2,.box (aAb w)),(3,.box [.v (.int .u32 (min y0 (pT 0))),.v (.int .u32 (min y1 (pT 1))),.v (.int .u32 (min y2 (pT 2))),.v (.int .u32 g.2),.v (.int .u32 0)])],[(0,.op 0 0),(4,.op 1 0),(5,.op 2 0),(6,.op 3 0),(7,.v (.int .i64 3))]⟩) (fun g=>g.1<=raw.length/\0<=g.2/\g.2<=4294967295) ?_ ?_
 ·(repeat' ((conv=>whnf);first|(with_reducible first|refine jF raw _ _ zo zp hr fun m1 p1 hm1 hp1=>?_|refine vP raw _ zp hr fun h p2 ho hp2=>?_)|(refine kP zd ?_)|(with_reducible first|refine iA zo ?_|refine iU fun r r0 r1=>?_)|(refine gV (by exact rfl) ?_)|(with_reducible first|refine pI _ ?_|refine Iq _ _ _ _ _ zo zo zo zo fun g ho=>?_)|(refine Jm zo ⟨by omega,by omega,⟨by assumption,by assumption⟩,⟨by assumption,by assumption⟩,⟨by assumption,by assumption⟩⟩ fun y y0 y1=>?_)|refine zG ?_|apply zA|intro h|exact zT));all_goals conv=>whnf
  all_goals
   refine⟨(p1,y),⟨hp1,y0,y1⟩,?_⟩;exact leA
 rintro⟨q3,y3⟩ ⟨hq3,l3,u3⟩
 simp only at hq3 l3 u3⊢;(repeat' ((conv=>whnf);first|(with_reducible first|refine jF raw _ _ zo zp hr fun m1 p1 hm1 hp1=>?_|refine vP raw _ zp hr fun h p2 ho hp2=>?_)|(refine kP zd ?_)|(with_reducible first|refine iA zo ?_|refine iU fun r r0 r1=>?_)|(refine gV (by exact rfl) ?_)|(with_reducible first|refine pI _ ?_|refine Iq _ _ _ _ _ zo zo zo zo fun g ho=>?_)|(refine Jm zo ⟨by omega,by omega,⟨by assumption,by assumption⟩,⟨by assumption,by assumption⟩,⟨by assumption,by assumption⟩⟩ fun y y0 y1=>?_)|refine zG ?_|apply zA|intro h|exact zT));all_goals conv=>whnf
 refine gY (Nat×Int) (fun g=>⟨4,[(0,iI raw g.1),(1,.box [.v (.int .u32 0),.v (.int .u32 0),.v (.int .u8 0),.v (.int .u16 0),.v (.int .u16 0)]),(2,.box (aAb w)),(3,.box [.v (.int .u32 (min y0 (pT 0))),.v (.int .u32 (min y1 (pT 1))),.v (.int .u32 (min y2 (pT 2))),.v (.int .u32 (min y3 (pT 3))),.v (.int .u32 g.2)])],[(0,.op 0 0),(4,.op 1 0),(5,.op 2 0),(6,.op 3 0),(7,.v (.int .i64 4))]⟩) (fun g=>g.1<=raw.length/\0<=g.2/\g.2<=4294967295) ?_ ?_
 ·(repeat' ((conv=>whnf);first|(with_reducible first|refine jF raw _ _ zo zp hr fun m1 p1 hm1 hp1=>?_|refine vP raw _ zp hr fun h p2 ho hp2=>?_)|(refine kP zd ?_)|(with_reducible first|refine iA zo ?_|refine iU fun r r0 r1=>?_)|(refine gV (by exact rfl) ?_)|(with_reducible first|refine pI _ ?_|refine Iq _ _ _ _ _ zo zo zo zo fun g ho=>?_)|(refine Jm zo ⟨by omega,by omega,⟨by assumption,by assumption⟩,⟨by assumption,by assumption⟩,⟨by assumption,by assumption⟩⟩ fun y y0 y1=>?_)|refine zG ?_|apply zA|intro h|exact zT));all_goals conv=>whnf
  all_goals
   refine⟨(p1,y),⟨hp1,y0,y1⟩,?_⟩;exact leA
 rintro⟨q4,y4⟩ ⟨hq4,l4,u4⟩
 simp only at hq4 l4 u4⊢;have e0:pT 0=4294967295:=by decide
 have e1:pT 1=4294967295:=by decide
 have e2:pT 2=255:=by decide
 have e3:pT 3=65535:=by decide
 have e4:pT 4=65535:=by decide
 (repeat' ((conv=>whnf);first|(with_reducible first|refine jF raw _ _ zo zp hr fun m1 p1 hm1 hp1=>?_|refine vP raw _ zp hr fun h p2 ho hp2=>?_)|(refine kP zd ?_)|(with_reducible first|refine iA zo ?_|refine iU fun r r0 r1=>?_)|(refine gV (by exact rfl) ?_)|(with_reducible first|refine pI _ ?_|refine Iq _ _ _ _ _ zo zo zo zo fun g ho=>?_)|(refine Jm zo ⟨by omega,by omega,⟨by assumption,by assumption⟩,⟨by assumption,by assumption⟩,⟨by assumption,by assumption⟩⟩ fun y y0 y1=>?_)|refine zG ?_|apply zA|intro h|exact zT));all_goals conv=>whnf
 exact hK _ _ zp zp
def aNa:Ctx:={N:=6}
abbrev aHS:=ofD aNa Tryz.func133
def aFT:Ctx:={N:=17}
abbrev aCQ:=ofD aFT Tryz.func276
def aMY:Ctx:={N:=49,np:=1,plan:=p1 4 (lp 13 [26,29]) (p1 6 Ag pn)}
abbrev aHQ:=ofD aMY Tryz.func270
def aFY:Ctx:={N:=76,np:=1,plan:=p1 3 (lp 18 [36,39]) (p1 5 Af (p1 6 (lp 21 [42,45,46]) pn))}
abbrev aCV:=ofD aFY Tryz.func303
def aFS:Ctx:={N:=56,np:=1,own:=oz [303],plan:=p1 10 Ah pn}
abbrev aCP:=ofD aFS Tryz.func271
def aNe:Ctx:={N:=32,np:=1,plan:=p1 3 Ai pn}
abbrev aHW:=ofD aNe Tryz.func274
def aFW:Ctx:={N:=168,np:=1,plan:=gsPart.plan,cut:=oz [5,7,15,17]}
abbrev aCT:=ofD aFW Tryz.func278
def aNc:Ctx:={N:=84,np:=1,plan:=p1 1 Ai (p1 3 Aj (p1 5 Af (p1 8 Ai pn))),cut:=oz [5,7]}
abbrev aHU:=ofD aNc Tryz.func277
def aFX:Ctx:={N:=133,np:=1,plan:=gsPins.plan,cut:=oz [7,18]}
abbrev aCU:=ofD aFX Tryz.func275
def aFV:Ctx:={N:=28,np:=2,plan:=p1 1 (lp 8 [16]) pn}
abbrev aCS:=ofD aFV Tryz.func320
def aMZ:Ctx:={N:=36,np:=2,own:=oz [320]}
abbrev aHR:=ofD aMZ Tryz.func305
def aFU:Ctx:={N:=15,np:=2,own:=oz [305]}
abbrev aCR:=ofD aFU Tryz.func304
def aNd:Ctx:={N:=57,np:=1,own:=oz [305,304]}
abbrev aHV:=ofD aNd Tryz.func273
def aMX:Ctx:={N:=65,np:=1,own:=oz [235],plan:=p1 10 Ah pn}
abbrev aHP:=ofD aMX Tryz.func272
def aNb:Ctx:={N:=134,np:=1,own:=oz [270,271,272,273,274,275,277,278,208],plan:=p1 17 Aj pn,cut:=oz [10,15,17]}
abbrev aHT:=ofD aNb Tryz.func208
def aFZ:Ctx:={N:=11,np:=1,own:=oz [208]}
abbrev aCW:=ofD aFZ Tryz.func136
def aFR:Ctx:={N:=61,np:=1,plan:=p1 6 (lo 10) (p1 11 (lo 10) pn),res:=true}
abbrev aCO:=ofD aFR Tryz.func137
abbrev lJ(z:Int):AV:=.v (.int .i64 z)
abbrev iJ(d:Array Int):Vm.Obj:=.arr 1 (d.toList.map lJ)
theorem jK{d:Array Int}{i:Nat}{K:AV->Prop}(h:i<d.size)(hk:K (lJ d[i]!)):Ix (d.toList.map lJ) (0+i) K:=by
 rw[bD];exact hU (M3 h) hk
theorem aPO{d:Array Int}{i j:Nat}:((d.toList.map lJ).set i (lJ d[j]!)).set j (lJ d[i]!)=(Sort.swp d i j).toList.map lJ:=by
 rw[<-eW,<-eW];simp[Sort.swp]
theorem Fp{d:Array Int}{i j:Nat}{x:AV}{K:AV->Prop}(hij:i≠j)(h:j<d.size)(hk:K (lJ d[j]!)):Ix ((d.toList.map lJ).set (0+i) x) (0+j) K:=by
 rw[bD,bD];exact gV (by rw[fS hij,bO,M3 h];rfl) hk
theorem rH{d:Array Int}{i j:Nat}{y:Int}{K:AV->Prop}(h:j<d.size)(hk:∀z,K (lJ z)):Ix ((d.toList.map lJ).set (0+i) (lJ y)) (0+j) K:=by
 rw[bD,bD];rcases Nat.decEq i j with hij|rfl
 ·exact gV (by rw[fS hij,bO,M3 h];rfl) (hk _)
 ·exact gV (by rw[gE (by simpa using h)]) (hk _)
theorem pU{d:Array Int}{i j:Nat}:((d.toList.map lJ).set (0+i) (lJ d[j]!)).set (0+j) (lJ d[i]!)=(Sort.swp d i j).toList.map lJ:=by rw[bD,bD];exact aPO
theorem aKO(x:Int){K:KT}(hK:K (.sb false) []):AC 133 [lJ x] [] K:=by
 refine aHS rfl rfl ?_;(repeat' ((conv=>whnf);first|refine zG ?_|apply zA|intro h|exact zT));all_goals conv=>whnf
 have e:(!decide (x=x))=false:=by simp
 unfold yP;rw[e];exact hK
theorem mH(x y:Int){K:KT}(hK:K (.sb (Sort.ltInt x y)) []):AC 276 [lJ x,lJ y] [] K:=by
 refine gP (aCQ rfl rfl ?_);(repeat' ((conv=>whnf);first|(with_reducible refine aKO _ ?_)|refine zG ?_|apply zA|intro h|exact zT));all_goals conv=>whnf
 exact jP hK rfl
theorem aKN(d:Array Int)(a b:Nat)(hab:a<=b)(hb:b<=d.size)(hsz:d.size<1000000000000){K:KT}(hK:K (.tup []) [iJ (Sort.insertionSort Sort.ltInt d a b)]):
  AC 270 [.os 0 1 0 d.size,.v (.int .i64 a),.v (.int .i64 b)] [iJ d] K:=by
 refine aHQ rfl rfl ?_;(repeat' ((conv=>whnf);first|refine zG ?_|apply zA|intro h|exact zT));all_goals conv=>whnf
 refine gM (Nat×Array Int) (fun g=>⟨1,[(0,iJ g.2)],[(0,.os 0 1 0 d.size),(1,.v (.int .i64 a)),(2,.v (.int .i64 b)),(6,.v (.int .i64 g.1))]⟩)
  (fun g=>g.2.size=d.size/\a+1<=g.1/\g.1<=d.size+1/\Sort.insOuter Sort.ltInt a b g.1 g.2=Sort.insertionSort Sort.ltInt d a b) (fun g=>b-g.1) (a+1,d) ⟨rfl,aK _,by omega,rfl⟩ ?_ ?_
 ·dsimp only;rw[aN,aL];exact leA
 rintro⟨i,e⟩ ⟨he,hi1,hi2,ht⟩
 simp only at he hi1 hi2 ht⊢;rw[Sort.insOuter]at ht;rcases aC i b with hib|hib
 ·rw[aH hib]at ht;(repeat' ((conv=>whnf);first|refine zG ?_|apply zA|intro h|exact zT));all_goals conv=>whnf
  refine gM (Nat×Array Int) (fun g=>⟨1,[(0,iJ g.2)],[(0,.os 0 1 0 d.size),(1,.v (.int .i64 a)),(2,.v (.int .i64 b)),(6,.v (.int .i64 i)),(7,.v (.int .i64 g.1))]⟩)
   (fun g=>g.2.size=d.size/\a<=g.1/\g.1<=i/\Sort.insInner Sort.ltInt a g.1 g.2=Sort.insInner Sort.ltInt a i e) (fun g=>g.1) (i,e) ⟨he,by omega,aK _,rfl⟩ ?_ ?_
  ·exact leA
  rintro⟨j,f⟩ ⟨hf,hj1,hj2,hg⟩
  simp only at hf hj1 hj2 hg⊢;have n1:j<d.size:=by omega
  have n1':j<f.size:=by omega
  rcases aC a j with haj|haj
  ·obtain⟨m,rfl⟩:∃m,j=m+1:=⟨j-1,by omega⟩
   have n2:m<d.size:=by omega
   have n2':m<f.size:=by omega
   have hm:((m+1:Nat):Int)-1=(m:Nat):=by omega
   (repeat' ((conv=>whnf);first|(with_reducible first|refine mH _ _ ?_|refine iA n1 ?_|refine gU m hm n2 ?_|refine jK n1' ?_|refine jK n2' ?_|refine Fp (Nat.succ_ne_self m) n2' ?_)|refine zG ?_|apply zA|intro h|exact zT));all_goals conv=>whnf
   ·refine⟨(m,Sort.swp f (m+1) m),⟨by rw[swp_size,hf],by omega,by omega,?_⟩,by dsimp only;omega,?_⟩
    ·rw[<-hg];simp only[Sort.insInner];rw[aH];simp only[aJ,aM];exact⟨haj,h⟩
    ·dsimp only;rw[hm,pU];exact leA
   ·refine⟨(i+1,f),⟨hf,by omega,by omega,?_⟩,by dsimp only;omega,?_⟩
    ·rw[<-ht,<-hg];simp only[Sort.insInner];rw[aF];simp[h]
    ·dsimp only;rw[aN,aL];exact leA
  ·have hja:j=a:=by omega
   subst hja;(repeat' ((conv=>whnf);first|refine zG ?_|apply zA|intro h|exact zT));all_goals conv=>whnf
   refine⟨(i+1,f),⟨hf,by omega,by omega,?_⟩,by dsimp only;omega,?_⟩
   ·rw[<-ht,<-hg];cases j with
    |zero=>rfl
    |succ j=>simp only[Sort.insInner];rw[aF];simp
   ·dsimp only;rw[aN,aL];exact leA
 ·rw[aF zo]at ht;rw[<-ht]at hK;(repeat' ((conv=>whnf);first|refine zG ?_|apply zA|intro h|exact zT));all_goals conv=>whnf
  exact hK
theorem aEH(d:Array Int)(lo hi first:Nat)(hlo:lo<=d.size)(hb:first+hi<=d.size)(hsz:d.size<1000000000000){K:KT}(hK:K (.tup []) [iJ (Sort.siftDown Sort.ltInt hi first lo d)]):
  AC 303 [.os 0 1 0 d.size,.v (.int .i64 lo),.v (.int .i64 hi),.v (.int .i64 first)] [iJ d] K:=by
 refine aCV rfl rfl ?_;(repeat' ((conv=>whnf);first|refine zG ?_|apply zA|intro h|exact zT));all_goals conv=>whnf
 refine gM (Nat×Array Int) (fun g=>⟨1,[(0,iJ g.2)],[(0,.os 0 1 0 d.size),(1,.v (.int .i64 lo)),(2,.v (.int .i64 hi)),(3,.v (.int .i64 first)),(8,.v (.int .i64 g.1))]⟩)
  (fun g=>g.2.size=d.size/\g.1<=d.size/\Sort.siftDown Sort.ltInt hi first g.1 g.2=Sort.siftDown Sort.ltInt hi first lo d) (fun g=>hi-g.1) (lo,d) ⟨rfl,hlo,rfl⟩ ?_ ?_
 ·exact leA
 rintro⟨r,e⟩ ⟨he,hr,ht⟩
 simp only at he hr ht⊢;rw[Sort.siftDown]at ht;rcases aC (2*r+1) hi with h1|h1
 ·rw[dif_neg zo]at ht;have a1:first+(2*r+1)<e.size:=by omega
  have a0:first+r<e.size:=by omega
  have e1:first+(2*r+1)+1=first+(2*r+2):=by omega
  rw[e1]at ht;rcases aC (2*r+2) hi with h2|h2
  ·have a2:first+(2*r+2)<e.size:=by omega
   rw[show decide (2*r+1+1<hi)=true from decide_eq_true zo,dQ,dif_pos h2]at ht;(repeat' ((conv=>whnf);first|(with_reducible refine mH _ _ ?_)|(refine gU (first+(2*r+1)) zo zo ?_)|(refine gU (first+(2*r+2)) zo zo ?_)|(refine gU (first+r) zo zo ?_)|(with_reducible first|refine jK a0 ?_|refine jK a1 ?_|refine jK a2 ?_)|(refine Fp zo a1 ?_)|(refine Fp zo a2 ?_)|refine zG ?_|apply zA|intro h|exact zT));all_goals conv=>whnf
   ·rename_i hh;simp only[hh,h,eF,dO,bT,if_true,if_false,reduceIte]at ht;refine⟨(2*r+2,Sort.swp e (first+r) (first+(2*r+2))),⟨by rw[swp_size,he],by dsimp only;omega,ht⟩,by dsimp only;omega,?_⟩;dsimp only;rw[pU,show((2*r+2:Nat):Int)=2*(r:Int)+1+1 by omega];exact leA
   ·rename_i hh;simp only[hh,h,eF,dO,bT,if_true,if_false,reduceIte]at ht;rw[ht];exact hK
   ·rename_i hh;simp only[hh,h,eF,dO,bT,if_true,if_false,reduceIte]at ht;refine⟨(2*r+1,Sort.swp e (first+r) (first+(2*r+1))),⟨by rw[swp_size,he],by dsimp only;omega,ht⟩,by dsimp only;omega,?_⟩;dsimp only;rw[pU,show((2*r+1:Nat):Int)=2*(r:Int)+1 by omega];exact leA
   ·rename_i hh;simp only[hh,h,eF,dO,bT,if_true,if_false,reduceIte]at ht;rw[ht];exact hK
  ·rw[show decide (2*r+1+1<hi)=false from decide_eq_false zo,eO]at ht;(repeat' ((conv=>whnf);first|(with_reducible refine mH _ _ ?_)|(refine gU (first+(2*r+1)) zo zo ?_)|(refine gU (first+r) zo zo ?_)|(with_reducible first|refine jK a0 ?_|refine jK a1 ?_)|(refine Fp zo a1 ?_)|refine zG ?_|apply zA|intro h|exact zT));all_goals conv=>whnf
   ·simp only[h,eO,eF,dO,bT,if_true,if_false,reduceIte]at ht;refine⟨(2*r+1,Sort.swp e (first+r) (first+(2*r+1))),⟨by rw[swp_size,he],by dsimp only;omega,ht⟩,by dsimp only;omega,?_⟩;dsimp only;rw[pU,show((2*r+1:Nat):Int)=2*(r:Int)+1 by omega];exact leA
   ·simp only[h,eO,eF,dO,bT,if_true,if_false,reduceIte]at ht;rw[ht];exact hK
 ·rw[dif_pos h1]at ht;rw[<-ht]at hK;(repeat' ((conv=>whnf);first|refine zG ?_|apply zA|intro h|exact zT));all_goals conv=>whnf
  exact hK
theorem Ql{n:Nat}{d:Array Int}(hn:d.size=n)(lo hi first:Nat)(hlo:lo<=n)(hb:first+hi<=n)(hsz:n<1000000000000){K:KT}(hK:K (.tup []) [iJ (Sort.siftDown Sort.ltInt hi first lo d)]):
  AC 303 [.os 0 1 0 n,.v (.int .i64 lo),.v (.int .i64 hi),.v (.int .i64 first)] [iJ d] K:=by
 subst hn;exact aEH d lo hi first hlo hb hsz hK
theorem aEC(d:Array Int)(a b:Nat)(hab:a<b)(hb:b<=d.size)(hsz:d.size<1000000000000){K:KT}(hK:K (.tup []) [iJ (Sort.heapSort Sort.ltInt d a b)]):
  AC 271 [.os 0 1 0 d.size,.v (.int .i64 a),.v (.int .i64 b)] [iJ d] K:=by
 refine aCP rfl rfl ?_;have hq:((b:Int)-a-1).tdiv 2=(((b-a-1)/2:Nat):Int):=by rw[bX zo];omega
 have hba:(b:Int)-a=((b-a:Nat):Int):=by omega
 have hw:∀{K:Int->Prop},K (((b-a-1)/2:Nat):Int)->Wr .i64 (((b:Int)-a-1).tdiv 2) K:=fun h=>jB hq zo zo h;(repeat' ((conv=>whnf);first|(with_reducible refine hw ?_)|refine zG ?_|apply zA|intro h|exact zT));all_goals conv=>whnf
 refine gM (Nat×Array Int) (fun g=>⟨1,[(0,iJ g.2)],[(0,.os 0 1 0 d.size),(1,.v (.int .i64 a)),(2,.v (.int .i64 b)),(6,.v (.int .i64 a)),(7,.v (.int .i64 0)),(8,.v (.int .i64 ((b:Int)-a))),(9,.v (.int .i64 ((g.1:Int)-1)))]⟩)
  (fun g=>g.2.size=d.size/\g.1<=(b-a-1)/2+1/\Sort.heapBuild Sort.ltInt (b-a) a g.1 g.2=Sort.heapBuild Sort.ltInt (b-a) a ((b-a-1)/2+1) d) (fun g=>g.1) ((b-a-1)/2+1,d) ⟨rfl,aK _,rfl⟩ ?_ ?_
 ·dsimp only;rw[show((((b-a-1)/2+1:Nat):Int)-1)=(((b-a-1)/2:Nat):Int) by omega];exact leA
 rintro⟨k,e⟩ ⟨he,hk,ht⟩
 simp only at he hk ht⊢;rcases k with _|k
 ·simp only[Sort.heapBuild]at ht;subst ht;have hs:∀{K:KT} (k:Nat) (e:Array Int),e.size=d.size->k<b-a->K (.tup []) [iJ (Sort.siftDown Sort.ltInt k a 0 e)]->AC 303 [.os 0 1 0 d.size,.v (.int .i64 0),.v (.int .i64 k),.v (.int .i64 a)] [iJ e] K:=fun k e he hk h=>Ql he 0 k a zo zo hsz h;(repeat' ((conv=>whnf);first|refine zG ?_|apply zA|intro h|exact zT));all_goals conv=>whnf
  refine gM (Nat×Array Int) (fun g=>⟨1,[(0,iJ g.2)],[(0,.os 0 1 0 d.size),(1,.v (.int .i64 a)),(2,.v (.int .i64 b)),(6,.v (.int .i64 a)),(7,.v (.int .i64 0)),(8,.v (.int .i64 ((b:Int)-a))),(10,.v (.int .i64 ((g.1:Int)-1)))]⟩)
   (fun g=>g.2.size=d.size/\g.1<=b-a/\Sort.heapPop Sort.ltInt a g.1 g.2=Sort.heapSort Sort.ltInt d a b) (fun g=>g.1) (b-a,Sort.heapBuild Sort.ltInt (b-a) a ((b-a-1)/2+1) d) ⟨he,aK _,rfl⟩ ?_ ?_
  ·dsimp only;rw[<-hba];exact leA
  rintro⟨k,f⟩ ⟨hf,hk,ht⟩
  simp only at hf hk ht⊢;rcases k with _|k
  ·simp only[Sort.heapPop]at ht;rw[<-ht]at hK;(repeat' ((conv=>whnf);first|refine zG ?_|apply zA|intro h|exact zT));all_goals conv=>whnf
   exact hK
  ·have a0:a<f.size:=by omega
   have a1:a+k<f.size:=by omega
   have n0:a<d.size:=by omega
   have hik:((k+1:Nat):Int)-1=(k:Nat):=by omega
   rw[hik];(repeat' ((conv=>whnf);first|(with_reducible refine iA n0 ?_)|(refine gU (a+k) zo zo ?_)|(with_reducible first|refine jK a0 ?_|refine jK a1 ?_)|(refine rH a1 fun z=>?_)|(rw[pU])|(with_reducible refine hs k _ (swp_size.trans hf) zo ?_)|refine zG ?_|apply zA|intro h|exact zT));all_goals conv=>whnf
   refine⟨(k,Sort.siftDown Sort.ltInt k a 0 (Sort.swp f a (a+k))),⟨by rw[yK,swp_size,hf],by dsimp only;omega,?_⟩,by dsimp only;omega,?_⟩
   ·rw[<-ht];rfl
   ·exact leA
 ·have hik:((k+1:Nat):Int)-1=(k:Nat):=by omega
  rw[hik];have hs:∀{K:KT},K (.tup []) [iJ (Sort.siftDown Sort.ltInt (b-a) a k e)]->AC 303 [.os 0 1 0 d.size,.v (.int .i64 k),.v (.int .i64 ((b:Int)-a)),.v (.int .i64 a)] [iJ e] K:=fun h=>by rw[hba];exact Ql he k (b-a) a zo zo hsz h
  (repeat' ((conv=>whnf);first|(with_reducible refine hs ?_)|refine zG ?_|apply zA|intro h|exact zT));all_goals conv=>whnf
  refine⟨(k,Sort.siftDown Sort.ltInt (b-a) a k e),⟨by rw[yK,he],by dsimp only;omega,?_⟩,by dsimp only;omega,?_⟩
  ·rw[<-ht];rfl
  ·exact leA
theorem aKU(d:Array Int)(a b:Nat)(hab:a<b)(hb:b<=d.size)(hsz:d.size<1000000000000){K:KT}(hK:K (.tup []) [iJ (Sort.reverseRange d a b)]):
  AC 274 [.os 0 1 0 d.size,.v (.int .i64 a),.v (.int .i64 b)] [iJ d] K:=by
 refine aHW rfl rfl ?_;(repeat' ((conv=>whnf);first|refine zG ?_|apply zA|intro h|exact zT));all_goals conv=>whnf
 refine gM (Nat×Nat×Array Int) (fun g=>⟨1,[(0,iJ g.2.2)],[(0,.os 0 1 0 d.size),(1,.v (.int .i64 a)),(2,.v (.int .i64 b)),(6,.v (.int .i64 g.1)),(7,.v (.int .i64 g.2.1))]⟩)
  (fun g=>g.2.2.size=d.size/\g.1<=g.2.1+1/\g.2.1<d.size/\Sort.reverseLoop g.1 g.2.1 g.2.2=Sort.reverseRange d a b) (fun g=>g.2.1-g.1) (a,b-1,d) ⟨rfl,by dsimp only;omega,by dsimp only;omega,rfl⟩ ?_ ?_
 ·dsimp only;rw[gD zo,aL];exact leA
 rintro⟨i,j,e⟩ ⟨he,hi,hj,ht⟩
 simp only at he hi hj ht⊢;rw[Sort.reverseLoop]at ht;rcases aC i j with h1|h1
 ·rw[aH h1]at ht;have a1:i<e.size:=by omega
  have a2:j<e.size:=by omega
  have n1:i<d.size:=by omega
  have n2:j<d.size:=by omega
  (repeat' ((conv=>whnf);first|(with_reducible first|refine iA n1 ?_|refine iA n2 ?_|refine jK a1 ?_|refine jK a2 ?_)|(refine Fp zo a2 ?_)|refine zG ?_|apply zA|intro h|exact zT));all_goals conv=>whnf
  refine⟨(i+1,j-1,Sort.swp e i j),⟨by rw[swp_size,he],by dsimp only;omega,by dsimp only;omega,ht⟩,by dsimp only;omega,?_⟩;dsimp only;rw[aN,aL,gD zo,aL,pU];exact leA
 ·rw[aF zo]at ht;rw[<-ht]at hK;(repeat' ((conv=>whnf);first|refine zG ?_|apply zA|intro h|exact zT));all_goals conv=>whnf
  exact hK
end Go.Proofs.YtnomkooikbhgmaaGreatDoor
