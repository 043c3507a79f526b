/- Lemmas. -/
import Derived.Test.YtnomkooikbhgmaaGreatDoorK33
set_option linter.unusedVariables false
set_option linter.unusedSimpArgs false
set_option maxRecDepth 100000
set_option maxHeartbeats 4000000
namespace Go.Proofs.YtnomkooikbhgmaaGreatDoor
open Go Go.Vm
section
variable {I:List (Int×Rg)} {X:List Bx}
end
section
variable {I:List (Int×Rg)}
end
theorem aGl{x:It}(h:itB x false=true)(hk:x.kind≠3):(oX x).ok:=by
 unfold itB at h;rw[aF hk]at h;by_cases h1:x.kind=1
 ·rw[aH h1]at h;simp at h
 by_cases h2:x.kind=2
 ·rw[aF h1,aH h2]at h;simp at h
 by_cases h4:x.kind=4
 rotate_left
 ·rw[aF h1,aF h2,aF h4]at h;simp at h
 rw[aF h1,aF h2,aH h4]at h;simp only[dO,dQ,aJ]at h;have hp:=h.1;have e0:fullB.r0.lo=0/\fullB.r0.hi=4294967295/\fullB.r1.lo=0/\fullB.r1.hi=4294967295/\fullB.r3.lo=0/\fullB.r3.hi=65535:=by decide
 have key:(0<=x.proto/\x.proto<=255)/\x.ports.lo<=x.ports.hi/\x.ports.hi<=65535:=by
  unfold prB at hp;split at hp
  ·have:=of_decide_eq_true hp;omega
  ·split at hp
   ·have:=of_decide_eq_true hp;omega
   ·have:=of_decide_eq_true hp;omega
 have hw:=aUf (p:=x.proto) zo zo;refine⟨⟨?_,?_⟩,⟨?_,?_⟩,⟨?_,?_⟩,⟨?_,?_⟩,key.2.1,key.2.2⟩
 ·show fullB.r0.lo<=fullB.r0.hi;omega
 ·show fullB.r0.hi<=4294967295;omega
 ·show fullB.r1.lo<=fullB.r1.hi;omega
 ·show fullB.r1.hi<=4294967295;omega
 ·exact cC _
 ·show wu x.proto<=255;omega
 ·show fullB.r3.lo<=fullB.r3.hi;omega
 ·show fullB.r3.hi<=65535;omega
theorem Yb{l:List Df}{nm:ByteArray}{y:It}(h:Lead l (fun x y=>y=x) nm y):∃d,d∈l/\y∈d.items/\y.kind≠3:=by
 induction h with
 |here h1 h2 h3 h4 h5=>subst h5;exact⟨_,aI h2,h3,h4⟩
 |there h1 h2 h3 h4 h5 ih=>exact ih
def hdQ(h:Hd):Nat->Int
 |0=>h.src
 |1=>h.dst
 |2=>h.pro
 |3=>h.sp
 |_=>h.dp
theorem aLc{K:KT}(hK:K (mT pf0) []):AC 67 [.v (.int .i64 0)] [] K:=Qf 0 zd hK
theorem aLd{K:KT}(hK:K (mT pf4) []):AC 67 [.v (.int .i64 4)] [] K:=Qf 4 zd hK
theorem Tt(l:List Bx)(g:Hd)(ho:g.Ok)(hl:l.length<1000000000){K:KT}(hK:K (.sb (l.any fun b=>uU b g)) []):AC 50 [iE l,mR g] [] K:=by
 refine gP (aGJ rfl rfl ?_);(repeat' ((conv=>whnf);first|refine zG ?_|apply zA|intro h|exact zT));all_goals conv=>whnf
 refine gM Nat (fun i=>⟨1,[(0,.box [.v (.int .u32 g.src),.v (.int .u32 g.dst),.v (.int .u8 g.pro),.v (.int .u16 g.sp),.v (.int .u16 g.dp)])],[(0,iE l),(3,.op 0 0),(5,.v (.int .i64 i))]⟩) (fun i=>i<=l.length/\∀(j:Nat) x,j<i->l[j]? =some x->uU x g=false) (fun i=>l.length-i) 0 ⟨aO _,fun j x h=>absurd h (bC _)⟩ ?_ ?_
 ·exact leA
 intro i ⟨hi,hinv⟩;rcases aC i l.length with hil|hil
 ·obtain⟨x,hx⟩:=gex hil;(repeat' ((conv=>whnf);first|(with_reducible first|refine hZ hil ?_|refine hU hx ?_|refine aQN x g ho ?_)|refine zG ?_|apply zA|intro h|exact zT));all_goals conv=>whnf
  all_goals first
   |exact jU hK (dE.2 ⟨x,aI hx,h⟩)
   |(refine⟨i+1,⟨hil,iD hx (by simpa using h) hinv⟩,by omega,?_⟩
     rw[aN,aL];exact leA)
 ·(repeat' ((conv=>whnf);first|refine zG ?_|apply zA|intro h|exact zT));all_goals conv=>whnf
  refine iL hK ?_;rw[cB,ne_eq,dE]
  rintro⟨x,hx,hc⟩
  obtain⟨j,hj⟩:=bM.1 hx;have:=iC hil hinv j x hj;rw[hc]at this;cases this
theorem aEr{X:List Bx}(hs:kN X=true){g:Hd}(ho:g.Ok):(X.any fun b=>uU b g)=iZ (hdQ g) 5 X:=by
 rw[bK,dE,memK_iff];refine exists_congr fun b=>and_congr_right fun hb=>?_;have hok:=aPw (oT hs) hb;rw[tZ,inK_iff];constructor
 ·rintro⟨h0,h1,h2,h3,h4,_⟩ f hf
  obtain rfl|rfl|rfl|rfl|rfl:f=0\/f=1\/f=2\/f=3\/f=4:=by omega
  ·exact h0
  ·exact h1
  ·exact h2
  ·exact h3
  ·exact h4
 ·intro h;exact⟨h 0 zo,h 1 zo,h 2 zo,h 3 zo,h 4 zo,hok⟩
theorem Xg{P:Program}{f:FuncId}{args:List AV}{hs:List Vm.Obj}{K:KT}(h:ACall P f args hs fun v hs'=>aBj hs.length (iV 0 hs') v K):ACall P f args hs K:=by
 obtain⟨h1,h2⟩:=h.elim;refine ACall.intro h1 fun ι E w vals r hv=>(h2 ι E w vals r hv).mono ?_
 rintro e w' ⟨v,rr,hs',ι',E',he,hq,hr,hrel,hx⟩
 obtain⟨y,hs2,ι2,E2,k1,k2,k3,k4⟩:=zN hr (ι0:=ι) (fun id hid=>r.fresh id hid) hx.ex hrel hq;exact⟨v,y,hs2,ι2,E2,he,k1,k2,k3,k4⟩
/-! ### Unions of ranges out of a list -/
theorem Gd{c:List Rg}(hc:jC c){r:Rg}(hr:r∈c):has c r.lo=true/\has c (r.lo-1)=false:=by
 have hle:=hc.1 r hr;refine⟨has_iff.2 ⟨r,hr,cC _,hle⟩,?_⟩;rw[cB,ne_eq,has_iff]
 rintro⟨q,hq,q1,q2⟩
 obtain⟨i,hi,rfl⟩:=fG.1 hr;obtain⟨j,hj,rfl⟩:=fG.1 hq;have hp:=cJ.1 hc.2;rcases Nat.lt_trichotomy i j with hij|hij|hij
 ·have:=hp i j hi hj hij;omega
 ·subst hij;omega
 ·have:=hp j i hj hi hij;omega
theorem Yg{c:List Rg}(hc:jC c):(c.map fun r=>r.lo).Nodup:=by
 unfold List.Nodup;rw[gF];refine List.Pairwise.imp_of_mem ?_ hc.2;intro a b ha _ hab e;have:=hc.1 a ha;omega
end Go.Proofs.YtnomkooikbhgmaaGreatDoor
