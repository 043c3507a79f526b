/- Lemmas. -/
import Derived.Test.YtgicddadddhonaaGreatDoorProg
import Derived.Test.YtgicddadddhonaaGreatDoorM58
import Derived.Test.YtgicddadddhonaaGreatDoorM51
import Derived.Test.YtgicddadddhonaaGreatDoorM44
import Derived.Test.YtgicddadddhonaaGreatDoorM60
set_option linter.unusedVariables false
set_option linter.unusedSimpArgs false
set_option maxRecDepth 100000
set_option maxHeartbeats 4000000
noncomputable section
namespace Go.Proofs.YtgicddadddhonaaGreatDoor
open Go Go.Vm
def aXE:Ctx:={N:=85}
abbrev aXC:=ofD aXE Tryz.func38
def aXW:Ctx:={N:=6}
abbrev aXQ:=ofD aXW Tryz.func41
def aYD:Ctx:={N:=67,own:=oz [9,26,37,39,15,27,40]}
abbrev aYd:=ofD aYD Tryz.func8
def aYE:Ctx:={N:=15,np:=1,own:=oz [27]}
abbrev aYe:=ofD aYE Tryz.func39
def aYP:Ctx:={N:=32,np:=1,own:=oz [14,99,129],plan:=gnHide.plan}
abbrev aYo:=ofD aYP Tryz.func93
def aYa:Ctx:={N:=48,np:=1,own:=oz [14,93,75],hints:=h1 2 [.virt 7 13] hn}
abbrev aXT:=ofD aYa Tryz.func37
theorem aYc{a b c M:Int}{i:Nat}{K:AV->Prop}(hi:i<3)(ha:0<=a/\a<=M)(hb:0<=b/\b<=M)(hc:0<=c/\c<=M)(hk:∀y:Int,0<=y->y<=M->K (.v (.int .u32 y))):Ix [.v (.int .u32 a),.v (.int .u32 b),.v (.int .u32 c)] i K:=by
 match i,hi with
 |0,_=>exact iC rfl (hk a ha.1 ha.2)
 |1,_=>exact iC rfl (hk b hb.1 hb.2)
 |2,_=>exact iC rfl (hk c hc.1 hc.2)
def HiU(x:Hi):Prop:=0<=x.addr/\x.addr<=4294967295
theorem aYA(raw:List Int)(pos:Nat)(hp:pos<=raw.length)(hr:raw.length<=9223372036854775807){K:KT}
  (hK:∀(x:Hi) (pos':Nat),HiU x->pos'<=raw.length->K (pV x) [iO raw pos']):AC 93 [.op 0 0] [iO raw pos] K:=by
 have hq:∀(a0 a1 a2 a3 a4 a5 a6 a7 a8 a9 b c d:Int) (p':Nat),(B32 a0/\B32 a1/\B32 a2/\B32 a3/\B32 a4/\B32 a5/\B32 a6/\B32 a7/\B32 a8/\B32 a9/\B32 b/\B32 c/\B32 d)->p'<=raw.length->
   K (.agg [.v (.int .u32 a0),.v (.int .u32 a1),.v (.int .u32 a2),.v (.int .u32 a3),.v (.int .u32 a4),.v (.int .u32 a5),.v (.int .u32 a6),.v (.int .u32 a7),.v (.int .u32 a8),.v (.int .u32 a9),.v (.int .u32 b),.v (.int .u32 c),.v (.int .u32 d)]) [iO raw p']:=fun a0 a1 a2 a3 a4 a5 a6 a7 a8 a9 b c d p' ⟨h0,h1,h2,h3,h4,h5,h6,h7,h8,h9,hb,hc,hd⟩ hp'=>
  hK ⟨⟨⟨a0,a1,h0.1,h0.2,h1.1,h1.2⟩,⟨a2,a3,h2.1,h2.2,h3.1,h3.2⟩,⟨a4,a5,h4.1,h4.2,h5.1,h5.2⟩,⟨a6,a7,h6.1,h6.2,h7.1,h7.2⟩,⟨a8,a9,h8.1,h8.2,h9.1,h9.2⟩⟩,b,⟨c,d,hc.1,hc.2,hd.1,hd.2⟩⟩ p' hb hp'
 refine aYo rfl rfl ?_;(repeat' ((conv=>whnf);first|(with_reducible first|refine cr3Full ?_|refine jI raw _ _ zd zw hr fun m1 p1 hm1 hp1=>?_)|(refine aOG (M:=3405803782) zo zd zd fun y y0 y1=>?_)|(refine aYc (M:=255) zo zd zd zd fun y y0 y1=>?_)|(with_reducible first|refine cnRange raw _ 65535 zd zd zw hr fun r p4 hp4=>?_|refine cnAdrs raw _ zw hr fun r p4 hp4=>?_)|(refine kH zd ?_)|(with_reducible refine iJ zo ?_)|refine zG ?_|apply zA|intro h|exact zT));all_goals conv=>whnf
 all_goals
  refine hq _ _ _ _ _ _ _ _ _ _ _ _ _ _ ⟨?_,?_,?_,?_,?_,?_,?_,?_,?_,?_,?_,?_,?_⟩ zw;all_goals first
   |exact⟨by omega,by omega⟩
   |exact⟨Rg.l0 _,Rg.l1 _⟩
   |exact⟨Rg.h0 _,Rg.h1 _⟩
theorem aXV(raw:List Int)(pos:Nat)(hp:pos<=raw.length)(hr:raw.length<=9223372036854775807){K:KT}
  (hK:∀(l:List Hi) (pos':Nat),l.length<=2->(∀x,x∈l->HiU x)->pos'<=raw.length->K (nN l) [iO raw pos']):AC 37 [.op 0 0,.v (.int .i64 2),.v (.bool true)] [iO raw pos] K:=by
 refine aXT rfl rfl ?_;(repeat' ((conv=>whnf);first|(with_reducible refine jI raw _ _ zd zw hr fun m1 p1 hm1 hp1=>?_)|refine zG ?_|apply zA|intro h|exact zT));all_goals conv=>whnf
 refine gV (Nat×Nat×List Hi) (fun g=>⟨2,[(0,iO raw g.1),(1,.arr 13 (g.2.2.map pV))],[(0,.op 0 0),(2,.v (.bool true)),(7,.os 1 13 0 g.2.2.length),(8,.v (.int .i64 g.2.1))]⟩)
  (fun g=>g.1<=raw.length/\g.2.1+g.2.2.length<=2/\∀x,x∈g.2.2->HiU x) (fun g=>g.2.1) (p1,m1,[]) ⟨by with_reducible assumption,by simp only[aI];omega,fun x hx=>by cases hx⟩ ?_ ?_
 ·exact leA
 rintro⟨p2,i,l⟩ ⟨hp2,hi,hu⟩
 simp only at hp2 hi hu⊢;rcases aD 0 i with hi0|hi0
 ·obtain⟨i',rfl⟩:∃i',i=i'+1:=⟨i-1,by omega⟩
  have hi1:((i'+1:Nat):Int)-1=(i':Int):=by omega
  have hend:∀(q:Nat) (m:Hi),HiU m->q<=raw.length->q<=raw.length/\i'+(l++[m]).length<=2/\∀x,x∈l++[m]->HiU x:=fun q m hm h=>⟨h,by simp only[aC,aB,aI];omega,fun x hx=>by
   rcases aX.1 hx with hx|hx
   ·exact hu x hx
   ·rw[aU.1 hx];exact hm⟩
  (repeat' ((conv=>whnf);first|(with_reducible first|refine jO hi1 zo zo ?_|refine jD fun r r0 r1=>?_|refine aYA raw _ zw hr fun m p3 hum hp3=>?_|refine jI raw _ _ zd zw hr fun m2 p3 hm2 hp3=>?_|refine cnSpB raw _ m.mt zw hr fun b p3 hp3=>?_)|(exact absurd rfl h)|refine zG ?_|apply zA|intro h|exact zT));all_goals conv=>whnf
  all_goals first
   |(refine⟨(_,i',l++[m]),hend _ m hum zw,by simp only;omega,?_⟩
     simp only[aQ,aC,aR,bI,aB,aI];exact leA)
   |(refine⟨(_,i',l++[⟨m.mt,m.addr,⟨m.ports.lo,r,m.ports.l0,m.ports.l1,r0,r1⟩⟩]),hend _ _ hum zw,by simp only;omega,?_⟩
     simp only[aQ,aC,aR,bI,aB,aI];exact leA)
   |(refine⟨(_,i',l++[⟨b,m.addr,m.ports⟩]),hend _ _ hum zw,by simp only;omega,?_⟩
     simp only[aQ,aC,aR,bI,aB,aI];exact leA)
   |(refine⟨(_,i',l++[⟨b,m.addr,⟨m.ports.lo,r,m.ports.l0,m.ports.l1,r0,r1⟩⟩]),hend _ _ hum zw,by simp only;omega,?_⟩
     simp only[aQ,aC,aR,bI,aB,aI];exact leA)
 ·obtain rfl:i=0:=by omega
  (repeat' ((conv=>whnf);first|(with_reducible refine iT (aA ..) ?_)|refine zG ?_|apply zA|intro h|exact zT));all_goals conv=>whnf
  exact hK l _ zo hu hp2
theorem aYB(raw:List Int)(pos:Nat)(hp:pos<=raw.length)(hr:raw.length<=9223372036854775807){K:KT}
  (hK:∀(l:List Bx) (pos':Nat),l.length<=4096->pos'<=raw.length->K (iN l) [iO raw pos']):AC 39 [.op 0 0,.v (.int .i64 2)] [iO raw pos] K:=by
 have hbx:∀{K:KT},(∀(l:List Bx) (pos':Nat),l.length<=2->pos'<=raw.length->K (iN l) [iO raw pos'])->AC 27 [.op 0 0,.v (.int .i64 2),.v (.bool false)] [iO raw pos] K:=fun {K} h=>
  ACall.args (ys:=[.op 0 0,.v (.int .i64 2),.sb false]) ⟨Weak.refl,gY,Weak.bool,trivial⟩ (cnBoxes raw pos 2 zd hp hr h)
 refine aYe rfl rfl ?_;(repeat' ((conv=>whnf);first|(with_reducible first|refine hbx fun l p2 hl hp2=>?_|refine cr4Make _ zo ?_)|refine zG ?_|apply zA|intro h|exact zT));all_goals conv=>whnf
 exact hK _ _ (Ui _).len zw
theorem aZg(l:List Bx){K:KT}(hK:K (.sb (decide (6<l.length))) []):AC 41 [iN l] [] K:=by
 refine gZ (aXQ rfl rfl ?_);(repeat' ((conv=>whnf);first|refine zG ?_|apply zA|intro h|exact zT));all_goals conv=>whnf
 all_goals first
  |exact kB hK (by rw[bK,aL,aL,aA];omega)
theorem aXL(l:List Mv)(hl:l.length<1000000)(m:List Hi)(hm:m.length<1000000)(ha:∀x,x∈m->HiU x)(s:List Bx)(hs:s.length<1000000000)(h:Hd)(oh:h.Ok){K:KT}(hK:K (.sb true) []):AC 38 [lQ l,nN m,iN s,lC h] [] K:=by
 have z1:=fun {K}=>@Jw l h oh zo K;have z2:=fun {K}=>@aZh l h oh zo K;have z3:=fun {K}=>@aCH l zo s hs K;have z4:=fun {K}=>@aYZ l zo s hs K;have z5:=fun {K}=>@aVm m hm ha s hs K;have z6:=fun {K}=>@aZi m hm ha s hs K;have hsl:∀o:Option (List Bx),(∀x,o=some x->x.length<=4096)->(Se o).1.length<1000000000000:=fun o ho=>by
  unfold Se;cases o with
  |none=>decide
  |some x=>have:=ho x rfl;show x.length<_;omega
 have l3:(Se (G7 l s)).1.length<1000000000000:=hsl _ fun x hx=>by
  rw[show x=(Se (G7 l s)).1 by rw[hx];rfl,<-aJL];unfold Hq;have:∀(L:List Mv) (q:List Bx×Int),jW q.1=true->jW (L.foldl (fun s m=>F5 m s) q).1=true:=fun L=>by
   induction L with
   |nil=>exact fun q h=>h
   |cons m L ih=>exact fun q h=>ih _ (aRg m h)
  exact(kU (this l _ (aEq l s))).len
 have l5:(Se (T0 m s)).1.length<1000000000000:=hsl _ fun x hx=>by
  rw[show x=(Se (T0 m s)).1 by rw[hx];rfl,<-aXA];exact xW ..
 have w3:∀{K:KT},K (.sb true) []->AC 97 [iN (Se (G7 l s)).1,iN (Se (G7 l s)).1] [] K:=fun h=>cr4Same _ _ l3 l3 (by rw[decide_eq_true rfl];exact h);have w5:∀{K:KT},K (.sb true) []->AC 97 [iN (Se (T0 m s)).1,iN (Se (T0 m s)).1] [] K:=fun h=>cr4Same _ _ l5 l5 (by rw[decide_eq_true rfl];exact h);refine gZ (aXC rfl rfl ?_);generalize nT l h=A at*;obtain⟨g,ok⟩:=A;simp only at z1 z2;generalize Se (G7 l s)=S at*;obtain⟨c,e⟩:=S;simp only at z3 z4 w3;generalize Se (T0 m s)=D at*;obtain⟨d,f⟩:=D;simp only at z5 z6 w5;cases ok
 all_goals
  (repeat' ((conv=>whnf);first|(refine z1 ?_)|(refine z2 ?_)|(refine z3 ?_)|(refine z4 ?_)|(refine z5 ?_)|(refine z6 ?_)|(refine w3 ?_)|(refine w5 ?_)|(refine Wd g ?_)|refine zG ?_|apply zA|intro h|exact zT));all_goals conv=>whnf
  all_goals first
   |exact kE hK rfl
   |exact kB hK zx
   |(exfalso;simp_all;done)
theorem aYy(raw:List Int)(l:List Mv)(m:List Hi)(s:List Bx)(h0:Hd)(hu:∀x,x∈m->HiU x)(oh:h0.Ok)(hr:raw.length<=9223372036854775807):AC 8 [.lst (raw.map encI),lQ l,nN m,iN s,lC h0] [] Yes:=by
 have hmv:∀{pos:Nat} {K:KT},pos<=raw.length->(∀(l:List Mv) (pos':Nat),l.length<=3->pos'<=raw.length->K (lQ l) [iO raw pos'])->AC 26 [.op 0 0,.v (.int .i64 3),.v (.bool true)] [iO raw pos] K:=fun hp h=>aFG raw _ 3 zd hp hr h;have hbw:∀{pos:Nat} {K:KT},pos<=raw.length->(∀(l:List Bx) (pos':Nat),l.length<=2->pos'<=raw.length->K (iN l) [iO raw pos'])->AC 27 [.op 0 0,.v (.int .i64 2),.v (.bool true)] [iO raw pos] K:=fun hp h=>aBo raw _ 2 zd hp hr h;refine aYd rfl rfl ?_;(repeat' ((conv=>whnf);first|(with_reducible refine c9 raw ?_)|refine zG ?_|apply zA|intro h|exact zT));all_goals conv=>whnf
 refine gV (Nat×Nat) (fun g=>⟨2,[(0,.box (E8 h0)),(1,iO raw g.1)],[(1,lQ l),(2,nN m),(3,iN s),(9,.op 0 0),(11,.op 1 0),(12,.v (.int .i64 g.2))]⟩) (fun g=>g.1<=raw.length/\g.2<=3) (fun g=>3-g.2) (0,0) ⟨aK _,aK _⟩ ?_ ?_
 ·exact leA
 rintro⟨p,k⟩ ⟨hp,hk⟩
 simp only at hp hk⊢;rcases aD k 3 with hk3|hk3
 ·(repeat' ((conv=>whnf);first|(with_reducible first|refine hmv zw fun u p1 hul hp1=>?_|refine aXV raw _ zw hr fun v p2 hvl hvu hp2=>?_)|refine zG ?_|apply zA|intro h|exact zT));all_goals conv=>whnf
  (repeat' ((conv=>whnf);first|(with_reducible first|refine aYB raw _ zw hr fun a p3 hal hp3=>?_|refine aCD u zo ?_|refine N9 raw _ (Gq u) (bC (Fg u) zo) zw hr fun g p4 og4 hp4=>?_|refine hbw zw fun a p3 hal hp3=>?_|refine cvHdr raw _ zw hr fun g og4 p4 hp4=>?_)|(refine aXL u zo v zo hvu a zo g zw ?_)|refine zG ?_|apply zA|intro h|exact zT));all_goals conv=>whnf
  all_goals first
   |(refine⟨(_,k+1),⟨by with_reducible assumption,by omega⟩,by simp only;omega,?_⟩
     simp only;rw[aN,aM];exact leA)
   |(exfalso;simp_all;done)
 ·by_cases h1:l.length<=4
  case neg=>
   have hlm:(l.map nR).length=l.length:=aA ..;(repeat' ((conv=>whnf);first|refine zG ?_|apply zA|intro h|exact zT));all_goals conv=>whnf
   all_goals first
    |exact .inl rfl
    |exact .inr rfl
    |(exfalso;omega)
  by_cases h2:m.length<=4
  case neg=>
   have hlm:(l.map nR).length=l.length:=aA ..;have hmm:(m.map pV).length=m.length:=aA ..;(repeat' ((conv=>whnf);first|refine zG ?_|apply zA|intro h|exact zT));all_goals conv=>whnf
   all_goals first
    |exact .inl rfl
    |exact .inr rfl
    |(exfalso;omega)
  have hlm:(l.map nR).length=l.length:=aA ..;have hmm:(m.map pV).length=m.length:=aA ..;have hhu:=fun {K}=>@aZg s K;by_cases h3:6<s.length
  ·rw[decide_eq_true h3]at hhu;(repeat' ((conv=>whnf);first|(refine hhu ?_)|refine zG ?_|apply zA|intro h|exact zT));all_goals conv=>whnf
   all_goals first
    |exact .inl rfl
    |exact .inr rfl
    |(exfalso;omega)
  ·rw[decide_eq_false h3]at hhu;(repeat' ((conv=>whnf);first|(refine hhu ?_)|(refine aXL l zo m zo hu s zo h0 oh ?_)|(with_reducible refine tB ?_)|refine zG ?_|apply zA|intro h|exact zT));all_goals conv=>whnf
   all_goals first
    |exact .inl rfl
    |exact .inr rfl
    |(exfalso;omega)
    |(exfalso;simp_all;done)
end Go.Proofs.YtgicddadddhonaaGreatDoor
