/- Lemmas. -/
import Derived.Test.YtgicddadddhonaaGreatDoorProg
import Derived.Test.YtgicddadddhonaaGreatDoorM33
set_option linter.unusedVariables false
set_option linter.unusedSimpArgs false
set_option maxRecDepth 100000
set_option maxHeartbeats 4000000
noncomputable section
namespace Go.Proofs.YtgicddadddhonaaGreatDoor
open Go Go.Vm
def Ar:Sched:=.wch 4 (ln [12,15,17])
def aNm:Ctx:={N:=82,np:=1,own:=oz [14,48],plan:=p1 4 (lz [3,11] (.alt 0 (lz [4,7] Ar) (.alt 2 (.alt 0 (lz [7] Ar) (.alt 6 (ln [0,7,9,15,17]) Ab)) Ab))) pn}
abbrev aIm:=ofD aNm Tryz.func74
def aGr:Ctx:={N:=48,np:=1,own:=oz [14,74,75],hints:=h1 2 [.virt 7 20] hn}
abbrev aDt:=ofD aGr Tryz.func26
def gnHide:Ctx:={N:=32,np:=1,own:=oz [14,99,129],plan:=p1 1 (lz [5,13] (.alt 0 (.alt 1 (.alt 3 (lz [9] (.wch 5 (.alt 7 (ln [17,18,20]) (.alt 9 (ln [14,17,20]) Ab)))) (.alt 9 (lz [6,9] (.wch 5 (ln [14,17,20]))) Ab)) (.alt 3 (.alt 1 (lz [9] (.wch 5 (.alt 7 (ln [17,18,20]) (.alt 9 (ln [14,17,20]) Ab)))) (.alt 7 (.alt 1 (ln [9,11,17,18,20]) (.alt 9 (ln [2,9,11,17,20]) Ab)) (.alt 9 (.alt 1 (lz [9] (.wch 5 (ln [14,17,20]))) (.alt 7 (ln [2,9,11,17,20]) Ab)) Ab))) (.alt 9 (.alt 1 (lz [6,9] (.wch 5 (ln [14,17,20]))) (.alt 3 (.alt 1 (lz [9] (.wch 5 (ln [14,17,20]))) (.alt 7 (ln [2,9,11,17,20]) Ab)) Ab)) Ab))) (.alt 1 (.alt 0 (.alt 3 (lz [9] (.wch 5 (.alt 7 (ln [17,18,20]) (.alt 9 (ln [14,17,20]) Ab)))) (.alt 9 (lz [6,9] (.wch 5 (ln [14,17,20]))) Ab)) (.alt 9 (lz [0,6,9] (.wch 5 (ln [14,17,20]))) Ab)) (.alt 9 (.alt 0 (.alt 1 (lz [6,9] (.wch 5 (ln [14,17,20]))) (.alt 3 (.alt 1 (lz [9] (.wch 5 (ln [14,17,20]))) (.alt 7 (ln [2,9,11,17,20]) Ab)) Ab)) (.alt 1 (lz [0,6,9] (.wch 5 (ln [14,17,20]))) Ab)) Ab)))) pn}
theorem aOG{a b M:Int}{i:Nat}{K:AV->Prop}(hi:i<2)(ha:0<=a/\a<=M)(hb:0<=b/\b<=M)(hk:∀y:Int,0<=y->y<=M->K (.v (.int .u32 y))):Ix [.v (.int .u32 a),.v (.int .u32 b)] i K:=by
 match i,hi with
 |0,_=>exact iC rfl (hk a ha.1 ha.2)
 |1,_=>exact iC rfl (hk b hb.1 hb.2)
def B32(a:Int):Prop:=0<=a/\a<=4294967295
theorem aMk(raw:List Int)(pos:Nat)(hp:pos<=raw.length)(hr:raw.length<=9223372036854775807){K:KT}
  (hK:∀(m:Mv) (pos':Nat),pos'<=raw.length->K (nR m) [iO raw pos']):AC 74 [.op 0 0] [iO raw pos] K:=by
 have hsb:∀(n:Nat),n<6->∀{K:KT},(∀r:Pf,K (lN r) [])->AC 90 [.v (.int .i64 n)] [] K:=fun n hn K h=>Gk n hn (h _);have hq:∀(a0 a1 a2 a3 a4 a5 a6 a7 a8 a9 a10 a11 a12 a13 a14 a15 a16 a17 a18 a19:Int) (p':Nat),(B32 a0/\B32 a1/\B32 a2/\B32 a3/\B32 a4/\B32 a5/\B32 a6/\B32 a7/\B32 a8/\B32 a9/\B32 a10/\B32 a11/\B32 a12/\B32 a13/\B32 a14/\B32 a15/\B32 a16/\B32 a17/\B32 a18/\B32 a19)->p'<=raw.length->K (.agg [.v (.int .u32 a0),.v (.int .u32 a1),.v (.int .u32 a2),.v (.int .u32 a3),.v (.int .u32 a4),.v (.int .u32 a5),.v (.int .u32 a6),.v (.int .u32 a7),.v (.int .u32 a8),.v (.int .u32 a9),.v (.int .u32 a10),.v (.int .u32 a11),.v (.int .u32 a12),.v (.int .u32 a13),.v (.int .u32 a14),.v (.int .u32 a15),.v (.int .u32 a16),.v (.int .u32 a17),.v (.int .u32 a18),.v (.int .u32 a19)]) [iO raw p']:=fun a0 a1 a2 a3 a4 a5 a6 a7 a8 a9 a10 a11 a12 a13 a14 a15 a16 a17 a18 a19 p' ⟨h0,h1,h2,h3,h4,h5,h6,h7,h8,h9,h10,h11,h12,h13,h14,h15,h16,h17,h18,h19⟩ hp'=>
  hK ⟨⟨⟨a0,a1,h0.1,h0.2,h1.1,h1.2⟩,⟨a2,a3,h2.1,h2.2,h3.1,h3.2⟩,⟨a4,a5,h4.1,h4.2,h5.1,h5.2⟩,⟨a6,a7,h6.1,h6.2,h7.1,h7.2⟩,⟨a8,a9,h8.1,h8.2,h9.1,h9.2⟩⟩,⟨⟨a10,a11,h10.1,h10.2,h11.1,h11.2⟩,⟨a12,a13,h12.1,h12.2,h13.1,h13.2⟩,⟨a14,a15,h14.1,h14.2,h15.1,h15.2⟩,⟨a16,a17,h16.1,h16.2,h17.1,h17.2⟩,⟨a18,a19,h18.1,h18.2,h19.1,h19.2⟩⟩⟩ p' hp'
 refine aIm rfl rfl ?_;(repeat' ((conv=>whnf);first|(with_reducible first|refine cr3Full ?_|refine jI raw _ _ zd zw hr fun m1 p1 hm1 hp1=>?_)|(refine aOG (M:=3405803782) zo zd zd fun y y0 y1=>?_)|(with_reducible first|refine aBe raw _ 65000 zd zd zw hr fun a p2 a0 a1 hp2=>?_|refine jD fun r r0 r1=>?_|refine hsb _ zo fun q=>?_|refine Qn _ ?_)|(refine kH zd ?_)|(with_reducible refine iJ zo ?_)|refine zG ?_|apply zA|intro h|exact zT));all_goals conv=>whnf
 all_goals
  refine hq _ _ _ _ _ _ _ _ _ _ _ _ _ _ _ _ _ _ _ _ _ ⟨?_,?_,?_,?_,?_,?_,?_,?_,?_,?_,?_,?_,?_,?_,?_,?_,?_,?_,?_,?_⟩ zw;all_goals first
   |exact⟨by omega,by omega⟩
   |exact⟨Rg.l0 _,Rg.l1 _⟩
   |exact⟨Rg.h0 _,Rg.h1 _⟩
theorem aFG(raw:List Int)(pos:Nat)(n:Nat)(hn:n<=100)(hp:pos<=raw.length)(hr:raw.length<=9223372036854775807){K:KT}
  (hK:∀(l:List Mv) (pos':Nat),l.length<=n->pos'<=raw.length->K (lQ l) [iO raw pos']):AC 26 [.op 0 0,.v (.int .i64 n),.v (.bool true)] [iO raw pos] K:=by
 refine aDt rfl rfl ?_;(repeat' ((conv=>whnf);first|(with_reducible refine jI raw _ _ zo zw hr fun m1 p1 hm1 hp1=>?_)|refine zG ?_|apply zA|intro h|exact zT));all_goals conv=>whnf
 refine gV (Nat×Nat×List Mv) (fun g=>⟨2,[(0,iO raw g.1),(1,.arr 20 (g.2.2.map nR))],[(0,.op 0 0),(2,.v (.bool true)),(7,.os 1 20 0 g.2.2.length),(8,.v (.int .i64 g.2.1))]⟩)
  (fun g=>g.1<=raw.length/\g.2.1+g.2.2.length<=n) (fun g=>g.2.1) (p1,m1,[]) ⟨by with_reducible assumption,by simp only[aI];omega⟩ ?_ ?_
 ·exact leA
 rintro⟨p2,i,l⟩ ⟨hp2,hi⟩
 simp only at hp2 hi⊢;rcases aD 0 i with hi0|hi0
 ·obtain⟨i',rfl⟩:∃i',i=i'+1:=⟨i-1,by omega⟩
  have hi1:((i'+1:Nat):Int)-1=(i':Int):=by omega
  have hend:∀(q:Nat) (m:Mv),q<=raw.length->q<=raw.length/\i'+(l++[m]).length<=n:=fun q m h=>⟨h,by simp only[aC,aB,aI];omega⟩
  (repeat' ((conv=>whnf);first|(with_reducible first|refine jO hi1 zo zo ?_|refine aMk raw _ zw hr fun m p3 hp3=>?_|refine jI raw _ _ zd zw hr fun m2 p3 hm2 hp3=>?_|refine cnSpB raw _ m.to zw hr fun b p3 hp3=>?_)|(exact absurd rfl h)|refine zG ?_|apply zA|intro h|exact zT));all_goals conv=>whnf
  all_goals first
   |(refine⟨(_,i',l++[m]),hend _ m zw,by simp only;omega,?_⟩
     simp only[aQ,aC,aR,bI,aB,aI];exact leA)
   |(refine⟨(_,i',l++[⟨m.to,m.frm⟩]),hend _ _ zw,by simp only;omega,?_⟩
     simp only[aQ,aC,aR,bI,aB,aI];exact leA)
   |(refine⟨(_,i',l++[⟨m.frm,b⟩]),hend _ _ zw,by simp only;omega,?_⟩
     simp only[aQ,aC,aR,bI,aB,aI];exact leA)
   |(refine⟨(_,i',l++[⟨b,m.frm⟩]),hend _ _ zw,by simp only;omega,?_⟩
     simp only[aQ,aC,aR,bI,aB,aI];exact leA)
 ·obtain rfl:i=0:=by omega
  (repeat' ((conv=>whnf);first|(with_reducible refine iT (aA ..) ?_)|refine zG ?_|apply zA|intro h|exact zT));all_goals conv=>whnf
  exact hK l _ zo hp2
theorem aBo(raw:List Int)(pos:Nat)(n:Nat)(hn:n<=100)(hp:pos<=raw.length)(hr:raw.length<=9223372036854775807){K:KT}
  (hK:∀(l:List Bx) (pos':Nat),l.length<=n->pos'<=raw.length->K (iN l) [iO raw pos']):AC 27 [.op 0 0,.v (.int .i64 n),.v (.bool true)] [iO raw pos] K:=by
 refine Rv rfl rfl ?_;(repeat' ((conv=>whnf);first|(with_reducible refine jI raw _ _ zo zw hr fun m1 p1 hm1 hp1=>?_)|refine zG ?_|apply zA|intro h|exact zT));all_goals conv=>whnf
 refine gV (Nat×Nat×List Bx) (fun g=>⟨2,[(0,iO raw g.1),(1,.arr 10 (g.2.2.map iV))],[(0,.op 0 0),(2,.v (.bool true)),(7,.os 1 10 0 g.2.2.length),(8,.v (.int .i64 g.2.1))]⟩)
  (fun g=>g.1<=raw.length/\g.2.1+g.2.2.length<=n) (fun g=>g.2.1) (p1,m1,[]) ⟨by with_reducible assumption,by simp only[aI];omega⟩ ?_ ?_
 ·exact leA
 rintro⟨p2,i,l⟩ ⟨hp2,hi⟩
 simp only at hp2 hi⊢;rcases aD 0 i with hi0|hi0
 ·obtain⟨i',rfl⟩:∃i',i=i'+1:=⟨i-1,by omega⟩
  have hi1:((i'+1:Nat):Int)-1=(i':Int):=by omega
  (repeat' ((conv=>whnf);first|(with_reducible first|refine jO hi1 zo zo ?_|refine aKm raw _ zw hr fun b p3 hp3=>?_|refine jI raw _ _ zd zw hr fun m2 p3 hm2 hp3=>?_|refine cnSpB raw _ b zw hr fun b p3 hp3=>?_)|(exact absurd rfl h)|refine zG ?_|apply zA|intro h|exact zT));all_goals conv=>whnf
  all_goals first
   |(refine⟨(_,i',l++[b]),⟨by with_reducible assumption,by simp only[aC,aB,aI];omega⟩,by simp only;omega,?_⟩
     simp only[aQ,aC,aR,bI,aB,aI];exact leA)
 ·obtain rfl:i=0:=by omega
  (repeat' ((conv=>whnf);first|(with_reducible refine iT (aA ..) ?_)|refine zG ?_|apply zA|intro h|exact zT));all_goals conv=>whnf
  exact hK l _ zo hp2
end Go.Proofs.YtgicddadddhonaaGreatDoor
