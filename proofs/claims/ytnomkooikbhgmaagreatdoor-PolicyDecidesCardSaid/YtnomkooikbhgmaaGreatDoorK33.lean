/- Lemmas. -/
import Derived.Test.YtnomkooikbhgmaaGreatDoorK32
set_option linter.unusedVariables false
set_option linter.unusedSimpArgs false
set_option maxRecDepth 100000
set_option maxHeartbeats 4000000
noncomputable section
namespace Go.Proofs.YtnomkooikbhgmaaGreatDoor
open Go Go.Vm
def atB(s:ByteArray)(c:Int)(i:Nat):Bool:=match s[i]? with
 |some b=>decide ((b.toNat:Int)=c)
 |none=>true
def prt(s:ByteArray)(c:Int):Nat->List ByteArray×Nat
 |0=>([],0)
 |i+1=>if atB s c i=true then((prt s c i).1++[s.extract (prt s c i).2 i],i+1)else prt s c i
theorem aDs(s:ByteArray)(c:Int):∀i,(prt s c i).2<=i/\(prt s c i).1.length<=i
 |0=>⟨aK _,aK _⟩
 |i+1=>by
  have:=aDs s c i;rw[prt];split
  ·simp only[aD,aB,aG];omega
  ·omega
theorem Zt(s:ByteArray)(c:Int):atB s c s.size=true:=by rw[atB,getElem?_neg s s.size (Nat.lt_irrefl _)]
theorem aIA(s:ByteArray)(c:Int):(prt s c (s.size+1)).1=(prt s c s.size).1++[s.extract (prt s c s.size).2 s.size]:=by
 rw[prt,aH (Zt s c)]
def vH(s:ByteArray)(c:Int):List ByteArray:=(prt s c (s.size+1)).1
theorem aIz(s:ByteArray)(c:Int):vH s c≠[]:=by rw[vH,aIA];simp
theorem aER(s:ByteArray)(c:Int)(hs:s.size<=1000){K:KT}(hK:K (.lst ((vH s c).map mU)) []):AC 279 [.v (.string s),.v (.int .u8 c)] [] K:=by
 refine L6 rfl rfl ?_;(repeat' ((conv=>whnf);first|refine zG ?_|apply zA|intro h|exact zT));all_goals conv=>whnf
 refine gM (List ByteArray×Nat×Nat) (fun g=>⟨1,[(0,.arr 1 (g.1.map mU))],[(0,.v (.string s)),(1,.v (.int .u8 c)),(5,.os 0 1 0 g.1.length),(6,.v (.int .i64 g.2.1)),(7,.v (.int .i64 g.2.2))]⟩)
  (fun g=>g.2.2<=s.size+1/\prt s c g.2.2=(g.1,g.2.1)) (fun g=>s.size+1-g.2.2) ([],0,0) ⟨by simp only;omega,rfl⟩ ?_ ?_
 ·exact leA
 rintro⟨l,a,i⟩ ⟨h1,hg⟩
 simp only at h1 hg⊢;have hle:=aDs s c i;rw[hg]at hle;obtain⟨h2,h3⟩:=hle;simp only at h2 h3;rcases aC i (s.size+1)with hl|hl
 ·have hstep:prt s c (i+1)=if atB s c i=true then(l++[s.extract a i],i+1)else(l,a):=by rw[prt,hg]
  (repeat' ((conv=>whnf);first|(with_reducible first|refine iA zo ?_|refine aBT zo fun b hb=>?_|refine gZ a i rfl rfl zo zo ?_)|refine zG ?_|apply zA|intro h|exact zT));all_goals conv=>whnf
  all_goals first
   |(have hno:atB s c i=false:=by rw[atB,hb];exact decide_eq_false h
     rw[hno,aF zd]at hstep;refine⟨(l,a,i+1),⟨by simp only;omega,hstep⟩,by simp only;omega,?_⟩;rw[show(((l,a,i+1):List ByteArray×Nat×Nat).2.2:Int)=(i:Int)+1 from by simp only;omega];exact leA)
   |(have hyes:atB s c i=true:=by
      first
       |(rw[atB,hb];exact decide_eq_true h)
       |(rw[show i=s.size by omega];exact Zt s c)
     rw[hyes,aH rfl]at hstep;refine⟨(l++[s.extract a i],i+1,i+1),⟨by simp only;omega,hstep⟩,by simp only;omega,?_⟩;simp only[aQ,aD,aR,bL,aB,aG,aN,aL];exact leA)
   |(exfalso;omega)
 ·(repeat' ((conv=>whnf);first|(with_reducible refine iP (aA ..) ?_)|refine zG ?_|apply zA|intro h|exact zT));all_goals conv=>whnf
  rw[vH,show s.size+1=i by omega,hg]at hK;exact hK
def yS(s:ByteArray):Int:=jJ (fun x=>sEq x s) dayL
theorem aRd(s:ByteArray){K:KT}(hK:K (.v (.int .i64 (yS s))) []):AC 280 [.v (.string s)] [] K:=by
 unfold yS at hK;refine aHj rfl rfl ?_;(repeat' ((conv=>whnf);first|(with_reducible refine aAr ?_)|refine zG ?_|apply zA|intro h|exact zT));all_goals conv=>whnf
 refine gM Nat (fun i=>⟨0,[],[(0,.v (.string s)),(3,.lst (dayL.map mU)),(4,.v (.int .i64 i))]⟩) (fun i=>i<=dayL.length/\∀(j:Nat) y,j<i->dayL[j]? =some y->sEq y s=false) (fun i=>dayL.length-i) 0 ⟨aO _,fun i y hi=>absurd hi (bC _)⟩ ?_ ?_
 ·exact leA
 intro i ⟨hi,hinv⟩;have h7:dayL.length=7:=rfl;rcases aC i dayL.length with hl|hl
 ·obtain⟨x,hx⟩:=gex hl;(repeat' ((conv=>whnf);first|(with_reducible first|refine hZ hl ?_|refine hU hx ?_)|refine zG ?_|apply zA|intro h|exact zT));all_goals conv=>whnf
  ·rw[jQ (p:=fun x=>sEq x s) hx (show sEq x s=true from h) hinv]at hK;exact hK
  ·refine⟨i+1,⟨hl,jY (p:=fun x:ByteArray=>sEq x s) hx h hinv⟩,by omega,?_⟩;rw[aN,aL];exact leA
 ·(repeat' ((conv=>whnf);first|refine zG ?_|apply zA|intro h|exact zT));all_goals conv=>whnf
  rw[jS (p:=fun x=>sEq x s) (iC hl hinv)]at hK;exact hK
structure DayW (s:ByteArray):Prop where
 size:s.size<=1000
 two:(vH s 45).length<=2
 ok:∀x y,(vH s 45)[0]? =some x->(vH s 45)[(vH s 45).length-1]? =some y->0<=yS x/\yS x<=yS y/\yS y<=6/\yS y<=yS x+4
theorem aLo(s:ByteArray)(hs:DayW s){K:KT}(hK:∀a b:Int,0<=a->a<=b->b<=6->b<=a+4->K (.tup [.v (.int .i64 a),.v (.int .i64 b)]) []):AC 209 [.v (.string s)] [] K:=by
 have h2:=hs.two;have hok:=hs.ok;have hpos:=dH.2 (aIz s 45);refine aCB rfl rfl ?_;have hp:=fun {K} h=>@aER s 45 hs.size K h;generalize vH s 45=l at*;have hm:((l.length:Nat):Int)-1=((l.length-1:Nat):Int):=by omega
 obtain⟨x,hx⟩:=gex hpos;obtain⟨y,hy⟩:∃y,l[l.length-1]? =some y:=⟨_,aE zo⟩
 obtain⟨q0,q1,q2,q3⟩:=hok x y hx hy;(repeat' ((conv=>whnf);first|(with_reducible refine hp ?_)|(refine gU 0 rfl (by rw[aA];omega) ?_)|(with_reducible first|refine jB (r:=((l.length-1:Nat):Int)) (by rw[aA];omega) zo zo ?_|refine hZ zo ?_|refine hU hx ?_|refine hU hy ?_|refine aRd _ ?_)|refine zG ?_|apply zA|intro h|exact zT));all_goals conv=>whnf
 all_goals first
  |exact hK _ _ q0 q1 q2 q3
  |(exfalso;simp only[aA]at*;omega)
def Qm(s:ByteArray):Int:=jJ (fun x=>Pa x s) dayL
theorem aAP(s:ByteArray):yS s=Qm s:=by
 unfold yS Qm
 congr 1
 funext x
 rw[nS];rfl
theorem yO:∀s,s∈winL->DayW s:=by
 have h:∀s,s∈winL->s.size<=1000/\(vH s 45).length<=2/\(0<=Qm ((vH s 45).getD 0 s)/\Qm ((vH s 45).getD 0 s)<=Qm ((vH s 45).getD ((vH s 45).length-1) s)/\Qm ((vH s 45).getD ((vH s 45).length-1) s)<=6/\Qm ((vH s 45).getD ((vH s 45).length-1) s)<=Qm ((vH s 45).getD 0 s)+4):=by decide+kernel
 intro s hs;obtain⟨h1,h2,h3⟩:=h s hs;refine⟨h1,h2,fun x y hx hy=>?_⟩;rw[List.getD,hx,List.getD,hy]at h3;rw[aAP,aAP];exact h3
theorem aES(s:ByteArray)(hs:s.size<=1000){K:KT}(hK:∀a b:Int,(a= -1\/(0<=a/\a<b))->b<=1440-> -1<=b->K (.tup [.v (.int .i64 a),.v (.int .i64 b)]) []):AC 210 [.v (.string s)] [] K:=by
 refine Yv rfl rfl ?_;(repeat' ((conv=>whnf);first|(with_reducible refine aEt s _ hs fun l hl hn=>?_)|(refine gU 0 rfl zo ?_)|(refine gU 1 rfl zo ?_)|(with_reducible first|refine iB (by simp only[aA]at*;omega) fun c hc=>?_|refine aEs _ fun r r0 r1=>?_)|refine zG ?_|apply zA|intro h|exact zT));all_goals conv=>whnf
 all_goals first
  |exact hK _ _ zo zo zo
def Zp(out:List Rg):Prop:=∀r,r∈out->∃d:Nat,d<7/\1440*(d:Int)<=r.lo/\r.lo<=r.hi/\r.hi<=1440*(d:Int)+1439
def inD(d:Nat)(r:Rg):Bool:=decide (1440*(d:Int)<=r.lo)&&decide (r.hi<=1440*(d:Int)+1439)
theorem aBM{p:Nat->Bool}{k:Nat}(h:∀d,p d=true->d=k):∀n,((List.range n).map fun d=>if p d=true then 1 else 0).sum<=if k<n then 1 else 0
 |0=>by simp
 |n+1=>by
  have ih:=aBM h n;rw[fH,aQ,List.sum_append];simp only[aR,bL,dC,List.sum_nil];by_cases hp:p n=true
  ·have:=h n hp;subst this;rw[aH hp,aH (Nat.lt_succ_self _)];rw[aF (Nat.lt_irrefl _)]at ih;omega
  ·rw[aF hp];split at ih
   ·rw[aH zo];omega
   ·split<;>omega
theorem So{α:Type}(f g:α->Nat):∀l:List α,(l.map fun d=>f d+g d).sum=(l.map f).sum+(l.map g).sum
 |[]=>rfl
 |x::l=>by simp only[aR,dC,So f g l];omega
theorem Sp:∀out:List Rg,(∀r,r∈out->r.lo<=r.hi)->((List.range 7).map fun d=>(out.filter (inD d)).length).sum<=out.length
 |[],_=>Nat.le_of_eq rfl
 |r::out,h=>by
  have ih:=Sp out fun x hx=>h x (aS _ hx);have e:((List.range 7).map fun d=>((r::out).filter (inD d)).length)=(List.range 7).map fun d=>(if inD d r=true then 1 else 0)+(out.filter (inD d)).length:=by
   refine eE fun d _=>?_;rw[fA];split
   ·rw[aB];omega
   ·omega
  have hr:=h r zx;have h1:=aBM (p:=fun d=>inD d r) (k:=(r.lo/1440).toNat) (fun d hd=>by
   simp only[inD,aJ,aM]at hd;omega) 7
  rw[e,So,aB];have h2:(if(r.lo/1440).toNat<7 then 1 else 0)<=1:=by split<;>omega
  omega
theorem Kf{out rs:List Rg}(ho:Zp out)(hl:out.length<=16)(hc:jC rs)(hh:∀v,has rs v=has out v):WinOk rs:=by
 refine⟨hc,fun r hr=>?_,?_⟩
 ·have h1:=has_iff.2 ⟨r,hr,hc.1 r hr,cC _⟩;rw[hh]at h1;obtain⟨q,hq,q1,q2⟩:=has_iff.1 h1;obtain⟨d,d1,d2,d3,d4⟩:=ho q hq;omega
 ·have hd:∀d,(wI rs d).length<=(out.filter (inD d)).length:=fun d=>by
   have e:(fun v=>has rs v&&(decide (1440*(d:Int)<=v)&&decide (v<=1440*(d:Int)+1439)))=has (out.filter (inD d)):=by
    funext v
    rw[hh,bK];simp only[aJ,aM];constructor
    ·rintro⟨h1,h2,h3⟩
     obtain⟨q,hq,q1,q2⟩:=has_iff.1 h1;obtain⟨e,d1,d2,d3,d4⟩:=ho q hq;have:e=d:=by omega
     subst this;exact has_iff.2 ⟨q,cI.2 ⟨hq,by simp only[inD,aJ,aM];omega⟩,q1,q2⟩
    ·intro h;obtain⟨q,hq,q1,q2⟩:=has_iff.1 h;obtain⟨hq1,hq2⟩:=cI.1 hq;simp only[inD,aJ,aM]at hq2;exact⟨has_iff.2 ⟨q,hq1,q1,q2⟩,by omega,by omega⟩
   unfold wI;rw[e];exact Dl _
  have hs:=Sp out fun r hr=>by obtain⟨d,d1,d2,d3,d4⟩:=ho r hr;exact d3
  have hm:uT rs 7<=((List.range 7).map fun d=>(out.filter (inD d)).length).sum:=by
   unfold uT;generalize List.range 7=l
   induction l with
   |nil=>simp
   |cons x l ih=>simp only[aR,dC];have:=hd x;omega
  omega
theorem Pp:WinOk []:=Kf (out:=[]) (fun r h=>by cases h) zx rT fun v=>rfl
structure Wds (ws:List ByteArray):Prop where
 mod:ws.length%3=2
 len:ws.length<=8
 size:∀s,s∈ws->s.size<=1000
 day:∀(j:Nat) s,ws[3*j]? =some s->DayW s
theorem aEQ(ws:List ByteArray)(hw:Wds ws){K:KT}(hK:∀(rs:List Rg) (e:Int),WinOk rs->rs.length<=16->K (.tup [iH rs,.v (.int .i64 e)]) []):AC 138 [.lst (ws.map mU)] [] K:=by
 have hl:=hw.len;have hmod:=hw.mod;have hm:(ws.length:Int).tmod 3=((ws.length%3:Nat):Int):=by rw[fO zo];omega
 refine gQ (Yu rfl rfl ?_);(repeat' ((conv=>whnf);first|(refine gU 0 rfl zo ?_)|(with_reducible first|refine iB (by simp only[aA]at*;omega) fun c hc=>?_|refine Ob.intro zd ?_)|refine zG ?_|apply zA|intro h|exact zT));all_goals conv=>whnf
 all_goals first
  |exact⟨_,gR gS gO,hK [] _ Pp zx⟩
  |skip
 all_goals
  refine gM (Nat×List Rg) (fun g=>⟨1,[(0,.arr 2 (g.2.map jR))],[(0,.lst (ws.map mU)),(4,.os 0 2 0 g.2.length),(5,.v (.int .i64 (3*g.1:Nat)))]⟩)
   (fun g=>3*g.1<=ws.length+1/\g.2.length<=5*g.1/\Zp g.2) (fun g=>ws.length+3-3*g.1) (0,[]) ⟨aO _,aO _,fun r h=>by cases h⟩ ?_ ?_
  ·exact leA
  rintro⟨i,out⟩ ⟨h2,h3,h4⟩
  simp only at h2 h3 h4⊢;rcases aC (3*i) ws.length with hil|hil
  ·have hi1:3*i+1<ws.length:=by omega
   obtain⟨s0,hs0⟩:∃s,ws[3*i]? =some s:=⟨_,aE hil⟩
   obtain⟨s1,hs1⟩:∃s,ws[3*i+1]? =some s:=⟨_,aE hi1⟩
   (repeat' ((conv=>whnf);first|(with_reducible first|refine hZ hil ?_|refine hU hs0 ?_|refine gU (3*i+1) zo (by rw[aA];exact hi1) ?_|refine hU hs1 ?_|refine aLo s0 (hw.day i s0 hs0) fun a b a0 a1 a2 a3=>?_|refine aES s1 (hw.size _ (aI hs1)) fun f g f0 g1 g0=>?_|refine gU (3*i+2) zo (by rw[aA]at*;omega) ?_|refine iB (by simp only[aA]at*;omega) fun c hc=>?_)|refine zG ?_|apply zA|intro h|exact zT));all_goals conv=>whnf
   all_goals first
    |exact⟨_,gR gS gO,hK [] _ Pp zx⟩
    |skip
   all_goals
    have hf:0<=f/\f<g:=by omega
    refine gM (Int×List Rg) (fun q=>⟨1,[(0,.arr 2 (q.2.map jR))],[(0,.lst (ws.map mU)),(4,.os 0 2 0 q.2.length),(5,.v (.int .i64 (3*i:Nat))),(7,.v (.int .i64 b)),(8,.v (.int .i64 f)),(9,.v (.int .i64 g)),(10,.v (.int .i64 q.1))]⟩)
     (fun q=>a<=q.1/\q.1<=b+1/\(q.2.length:Int)<=5*i+(q.1-a)/\Zp q.2) (fun q=>(7-q.1).toNat) (a,out) ⟨by simp only;omega,by simp only;omega,by simp only;omega,h4⟩ ?_ ?_
    ·exact leA
    rintro⟨d,ou⟩ ⟨k1,k2,k3,k4⟩
    simp only at k1 k2 k3 k4⊢;rcases dW b d with hbd|hbd
    ·(repeat' ((conv=>whnf);first|refine zG ?_|apply zA|intro h|exact zT));all_goals conv=>whnf
     refine⟨(i+1,ou),⟨by simp only;omega,by simp only;omega,k4⟩,by simp only;omega,?_⟩;rw[show((3*((i+1,ou):Nat×List Rg).1:Nat):Int)=((3*i:Nat):Int)+3 from by simp only;omega];exact leA
    ·(repeat' ((conv=>whnf);first|(with_reducible first|refine jB rfl zo zo ?_|refine xO rfl zo zo ?_)|refine zG ?_|apply zA|intro h|exact zT));all_goals conv=>whnf
     refine⟨(d+1,ou++[⟨1440*d+f,1440*d+g-1,by omega,by omega,by omega,by omega⟩]),⟨by simp only;omega,by simp only;omega,by simp only[aD,aB,aG];omega,fun r hr=>?_⟩,by simp only;omega,?_⟩
     ·rcases aY.1 hr with hr|hr
      ·exact k4 r hr
      ·rw[aW.1 hr];exact⟨d.toNat,by omega,by simp only;omega,by simp only;omega,by simp only;omega⟩
     ·simp only[aQ,aD,aR,bL,aB,aG];exact leA
  ·(repeat' ((conv=>whnf);first|(with_reducible first|refine Ob.intro zd ?_|refine xN fun r=>?_|refine iP (aA ..) ?_)|(refine c14 out [] zo zx fun rs q1 q2 q3=>?_)|refine zG ?_|apply zA|intro h|exact zT));all_goals conv=>whnf
   all_goals first
    |exact⟨_,gR gS gO,hK [] _ Pp zx⟩
    |exact⟨_,gO,hK _ _ (Kf h4 zo q1 fun v=>by rw[q2,oS];simp) (bA (K5 (rs:=out) q1 fun v=>by rw[q2,oS];simp) zo)⟩
theorem aIY{c e:ByteArray}(hc:c∈winL)(he:e.size<=1000):Wds [c,e] where
 mod:=rfl
 len:=by simp
 size:=fun s hs=>by
  simp only[aV,dR,or_false]at hs;rcases hs with rfl|rfl
  ·exact(yO _ hc).size
  ·exact he
 day:=fun j s hs=>by
  have:=(aP.1 hs).1;simp only[aB,aG]at this;obtain rfl:j=0:=by omega
  cases hs;exact yO _ hc
theorem aEc{ws:List ByteArray}{x y:ByteArray}(h:Wds ws)(hl:ws.length<=5)(hx:x∈winL)(hy:y.size<=1000):Wds (ws++[⟨#[44]⟩,x,y]) where
 mod:=by have:=h.mod;simp only[aD,aB,aG];omega
 len:=by simp only[aD,aB,aG];omega
 size:=fun s hs=>by
  rcases aY.1 hs with hs|hs
  ·exact h.size s hs
  ·simp only[aV,dR,or_false]at hs;rcases hs with rfl|rfl|rfl
   ·decide
   ·exact(yO _ hx).size
   ·exact hy
 day:=fun j s hs=>by
  have hm:=h.mod;rcases aC (3*j) ws.length with hlt|hge
  ·rw[bE hlt]at hs;exact h.day j s hs
  ·rw[bH hge]at hs;have:=(aP.1 hs).1;simp only[aB,aG]at this;rw[show 3*j-ws.length=1 by omega]at hs;cases hs;exact yO _ hx
theorem aRo(raw:List Int)(pos:Nat)(hp:pos<=raw.length)(hr:raw.length<=9223372036854775807){K:KT}
  (hK:∀(rs:List Rg) (pos':Nat),WinOk rs->rs.length<=16->pos'<=raw.length->K (iH rs) [iI raw pos']):AC 70 [.op 0 0] [iI raw pos] K:=by
 have b2:∀s,s∈houL->s.size<=1000:=by decide+kernel
 refine aOl rfl rfl ?_;(repeat' ((conv=>whnf);first|(with_reducible first|refine jF raw _ _ zo zp hr fun m1 p1 hm1 hp1=>?_|refine iA zo ?_|refine yA winL 6 rfl rfl zo fun c hc=>?_|refine yA houL 5 rfl rfl zo fun e he=>?_)|refine zG ?_|apply zA|intro h|exact zT));all_goals conv=>whnf
 all_goals
  refine gM (Nat×Nat×List ByteArray) (fun g=>⟨4,[(0,iI raw g.1),(1,.arr 1 (winL.map mU)),(2,.arr 1 (houL.map mU)),(3,.arr 1 (g.2.2.map mU))],[(0,.op 0 0),(3,.os 1 1 0 6),(4,.os 2 1 0 5),(5,.os 3 1 0 g.2.2.length),(6,.v (.int .i64 g.2.1))]⟩)
   (fun g=>g.1<=raw.length/\3*g.2.1+g.2.2.length<=8/\Wds g.2.2) (fun g=>g.2.1) (p1,m1,[c,e]) ⟨hp1,by simp only[aB,aG];omega,aIY hc (b2 _ he)⟩ ?_ ?_
  ·exact leA
  rintro⟨p2,i,ws⟩ ⟨h1,h2,h3⟩
  simp only at h1 h2 h3⊢;rcases aC 0 i with hi0|hi0
  ·obtain⟨i',rfl⟩:∃i',i=i'+1:=⟨i-1,by omega⟩
   have hi1:((i'+1:Nat):Int)-1=(i':Int):=by omega
   (repeat' ((conv=>whnf);first|(with_reducible first|refine jB hi1 zo zo ?_|refine jF raw _ _ zo zp hr fun m1 p1 hm1 hp1=>?_|refine iA zo ?_|refine yA winL 6 rfl rfl zo fun x hx=>?_|refine yA houL 5 rfl rfl zo fun y hy=>?_)|refine zG ?_|apply zA|intro h|exact zT));all_goals conv=>whnf
   all_goals first
    |(refine⟨(p1,i',ws++[⟨#[44]⟩,x,y]),⟨hp1,by simp only[aD,aB,aG];omega,aEc h3 zo hx (b2 _ hy)⟩,by simp only;omega,?_⟩
      simp only[aQ,aD,aR,bL,aB,aG];(exact leA))
  ·obtain rfl:i=0:=by omega
   (repeat' ((conv=>whnf);first|(with_reducible first|refine iP (aA ..) ?_|refine aEQ ws h3 fun rs e hrs hrl=>?_)|refine zG ?_|apply zA|intro h|exact zT));all_goals conv=>whnf
   exact hK _ _ hrs hrl h1
theorem aUn(x:Sm){K:KT}(hK:K (.sb (smB x)) []):AC 90 [jI x] [] K:=by
 refine gP (aGF rfl rfl ?_);(repeat' ((conv=>whnf);first|(with_reducible refine aRe _ ?_)|refine zG ?_|apply zA|intro h|exact zT));all_goals conv=>whnf
 all_goals first
  |refine jU hK ?_
  |refine iL hK ?_
  |refine jP hK ?_
 all_goals
  unfold smB;simp_all[sEq]
 all_goals omega
theorem aLl(l:List Df)(g:Bool)(hl:l.length<=999)(hi:∀x,x∈l->x.items.length<=999){K:KT}(hK:K (.sb (zI l g)) []):AC 86 [.lst (l.map iG),.sb g] [] K:=by
 refine gP (Yp rfl rfl ?_);have hno:(DfsOk l g->False)->zI l g=false:=zJ;(repeat' ((conv=>whnf);first|refine zG ?_|apply zA|intro h|exact zT));all_goals conv=>whnf
 ·exact iL hK (hno fun hn=>by have:=hn.len;simp only[aA]at*;omega)
 refine gM Nat (fun i=>⟨0,[],[(0,.lst (l.map iG)),(1,.sb g),(5,.v (.int .i64 i))]⟩) (fun i=>i<=l.length/\∀(j:Nat) d,j<i->l[j]? =some d->DfOk l g j d) (fun i=>l.length-i) 0 ⟨aO _,fun i y hi=>absurd hi (bC _)⟩ ?_ ?_
 ·exact leA
 intro i ⟨hil0,hinv⟩;rcases aC i l.length with hil|hil
 ·obtain⟨x,hx⟩:=gex hil;have hxi:=hi x (aI hx);have hno:(DfOk l g i x->False)->zI l g=false:=fun h=>zJ fun hn=>h (hn.all i x hx);(repeat' ((conv=>whnf);first|(with_reducible first|refine hZ hil ?_|refine hU hx ?_|refine wG _ ?_|refine Iv l _ zo ?_)|refine zG ?_|apply zA|intro h|exact zT));all_goals conv=>whnf
  all_goals first
   |(refine iL hK (hno fun hn=>?_)
     have n1:=hn.name;have n2:=hn.first;have n3:=hn.lo;have n4:=hn.hi
     (try simp only[aA]at*)
     first
      |omega
      |simp_all)
   |skip
  have h1:kW x.name=true:=by with_reducible assumption
  have h2:Fh l x.name=i:=by omega
  have h3:1<=x.items.length:=by simp only[aA]at*;omega
  have h4:x.items.length<=16:=by simp only[aA]at*;omega
  refine gM Nat (fun k=>⟨0,[],[(0,.lst (l.map iG)),(1,.sb g),(5,.v (.int .i64 i)),(6,.v (.int .i64 k))]⟩) (fun k=>k<=x.items.length/\∀(j:Nat) y,j<k->x.items[j]? =some y->itB y g=true) (fun k=>x.items.length-k) 0 ⟨aO _,fun i y hi=>absurd hi (bC _)⟩ ?_ ?_
  ·exact leA
  intro k ⟨hk0,hkv⟩;rcases aC k x.items.length with hkl|hkl
  ·obtain⟨y,hy⟩:=gex hkl;(repeat' ((conv=>whnf);first|(with_reducible first|refine hZ hil ?_|refine hU hx ?_|refine hZ hkl ?_|refine hU hy ?_|refine aLm y _ ?_)|refine zG ?_|apply zA|intro h|exact zT));all_goals conv=>whnf
   all_goals first
    |(refine⟨k+1,⟨hkl,iD hy h hkv⟩,by omega,?_⟩
      rw[aN,aL];exact leA)
    |(refine iL hK (hno fun hn=>?_)
      rw[hn.all y (aI hy)]at h;cases h)
  ·(repeat' ((conv=>whnf);first|(with_reducible first|refine hZ hil ?_|refine hU hx ?_)|refine zG ?_|apply zA|intro h|exact zT));all_goals conv=>whnf
   have hall:=iC hkl hkv;refine⟨i+1,⟨hil,iD hx ⟨h1,h2,h3,h4,fun y hy=>?_⟩ hinv⟩,by omega,?_⟩
   ·obtain⟨j,hj⟩:=bM.1 hy;exact hall j y hj
   ·rw[aN,aL];exact leA
 ·(repeat' ((conv=>whnf);first|refine zG ?_|apply zA|intro h|exact zT));all_goals conv=>whnf
  refine jU hK (uB ⟨?_,iC hil hinv⟩);simp only[aA]at*;omega
theorem V4(l:List Df)(g:Bool)(hl:l.length<=999)(hi:∀x,x∈l->x.items.length<=999){K:KT}(hK:K (.sb (zI l g)) []):AC 86 [.lst (l.map iG),.v (.bool g)] [] K:=
 ACall.args (ys:=[.lst (l.map iG),.sb g]) ⟨Weak.refl,Weak.bool,trivial⟩ (aLl l g hl hi hK)
theorem pY(i:Nt)(hb:Bnd i){K:KT}(hK:K (.sb (ntB i)) []):AC 35 [iS i] [] K:=by
 have bg:=hb.g;have bs:=hb.s;have bw:=hb.w;have bt:=hb.t;have bp:=hb.p;have bh:=hb.h;refine gP (aCs rfl rfl ?_);have hno:(NtOk i->False)->ntB i=false:=L3;have mem:∀{α:Type} {l:List α} {P:α->Prop},(∀(j:Nat) y,l[j]? =some y->P y)->∀x,x∈l->P x:=fun h x hx=>by
  obtain⟨j,hj⟩:=bM.1 hx;exact h j x hj
 have hG:∀{K:KT},K (.sb (zI i.grps true)) []->AC 86 [.lst (i.grps.map iG),.v (.bool true)] [] K:=fun h=>V4 i.grps true bg hb.gi h;have hS:∀{K:KT},K (.sb (zI i.svcs false)) []->AC 86 [.lst (i.svcs.map iG),.v (.bool false)] [] K:=fun h=>V4 i.svcs false bs hb.si h;(repeat' ((conv=>whnf);first|(with_reducible first|refine hG ?_|refine hS ?_)|refine zG ?_|apply zA|intro h|exact zT));all_goals conv=>whnf
 all_goals first
  |(refine iL hK (hno fun hn=>?_)
    have n1:=hn.wl;have n2:=hn.tl;have n3:=hn.pl;have n4:=hn.hl;(try simp only[aA]at*)
    first
     |omega
     |(rw[uB hn.g]at h;cases h;done)
     |(rw[uB hn.s]at h;cases h;done))
  |skip
 have hg:DfsOk i.grps true:=dfsB_iff.1 zw;have hs:DfsOk i.svcs false:=dfsB_iff.1 zw;have h1:i.wins.length<=32:=by simp only[aA]at*;omega
 have h2:i.sts.length<=64:=by simp only[aA]at*;omega
 have h3:i.pubs.length<=16:=by simp only[aA]at*;omega
 have h4:i.hids.length<=8:=by simp only[aA]at*;omega
 refine gM Nat (fun n=>⟨1,[(0,mD i)],[(1,.op 0 0),(3,.v (.int .i64 n))]⟩) (fun n=>n<=i.wins.length/\∀(j:Nat) y,j<n->i.wins[j]? =some y->WnOk i.wins j y) (fun n=>i.wins.length-n) 0 ⟨aO _,fun i y hi=>absurd hi (bC _)⟩ ?_ ?_
 ·exact leA
 intro n ⟨hn,hwin0⟩;rcases aC n i.wins.length with hnl|hnl
 ·obtain⟨x,hx⟩:=gex hnl;have hxa:=hb.wi x (aI hx);(repeat' ((conv=>whnf);first|(with_reducible first|refine hZ hnl ?_|refine hU hx ?_|refine aRf _ hxa ?_|refine wG _ ?_|refine Hq _ _ zo ?_)|refine zG ?_|apply zA|intro h|exact zT));all_goals conv=>whnf
  all_goals first
   |(refine⟨n+1,⟨hnl,iD hx ⟨by with_reducible assumption,by omega,winB_iff.1 zw⟩ hwin0⟩,by omega,?_⟩
     rw[aN,aL];exact leA)
   |(refine iL hK (hno fun hn=>?_)
     have n1:=hn.w n x hx;have n2:=winB_iff.2 n1.act;have n3:=n1.name;have n4:=n1.first
     first
      |exact h n4
      |omega
      |(rw[n2]at h;cases h;done)
      |(rw[n3]at h;cases h;done))
 have hwin:=iC hnl hwin0;(repeat' ((conv=>whnf);first|refine zG ?_|apply zA|intro h|exact zT));all_goals conv=>whnf
 refine gM Nat (fun n=>⟨1,[(0,mD i)],[(1,.op 0 0),(4,.v (.int .i64 n))]⟩) (fun n=>n<=i.sts.length/\∀(j:Nat) y,j<n->i.sts[j]? =some y->smB y=true) (fun n=>i.sts.length-n) 0 ⟨aO _,fun i y hi=>absurd hi (bC _)⟩ ?_ ?_
 ·exact leA
 intro n ⟨hn,hst0⟩;rcases aC n i.sts.length with hnl|hnl
 ·obtain⟨x,hx⟩:=gex hnl;(repeat' ((conv=>whnf);first|(with_reducible first|refine hZ hnl ?_|refine hU hx ?_|refine aUn x ?_)|refine zG ?_|apply zA|intro h|exact zT));all_goals conv=>whnf
  all_goals first
   |(refine⟨n+1,⟨hnl,iD hx h hst0⟩,by omega,?_⟩
     rw[aN,aL];exact leA)
   |(refine iL hK (hno fun hn=>?_)
     rw[hn.t x (aI hx)]at h;cases h)
 have hst:=iC hnl hst0;(repeat' ((conv=>whnf);first|refine zG ?_|apply zA|intro h|exact zT));all_goals conv=>whnf
 refine gM Nat (fun n=>⟨1,[(0,mD i)],[(1,.op 0 0),(5,.v (.int .i64 n))]⟩) (fun n=>n<=i.pubs.length/\∀(j:Nat) y,j<n->i.pubs[j]? =some y->pbB y=true) (fun n=>i.pubs.length-n) 0 ⟨aO _,fun i y hi=>absurd hi (bC _)⟩ ?_ ?_
 ·exact leA
 intro n ⟨hn,hpub0⟩;rcases aC n i.pubs.length with hnl|hnl
 ·obtain⟨x,hx⟩:=gex hnl;(repeat' ((conv=>whnf);first|(with_reducible first|refine hZ hnl ?_|refine hU hx ?_|refine aLn _ ?_|refine wG _ ?_)|refine zG ?_|apply zA|intro h|exact zT));all_goals conv=>whnf
  all_goals first
   |(refine⟨n+1,⟨hnl,iD hx (by unfold pbB;simp_all) hpub0⟩,by omega,?_⟩
     rw[aN,aL];exact leA)
   |(refine iL hK (hno fun hn=>?_)
     have n1:=hn.p x (aI hx);clear hwin hst hpub0;unfold pbB at n1;simp_all)
 have hpub:=iC hnl hpub0;(repeat' ((conv=>whnf);first|refine zG ?_|apply zA|intro h|exact zT));all_goals conv=>whnf
 refine gM Nat (fun n=>⟨1,[(0,mD i)],[(1,.op 0 0),(7,.v (.int .i64 n))]⟩) (fun n=>n<=i.hids.length/\∀(j:Nat) y,j<n->i.hids[j]? =some y->hnB y=true) (fun n=>i.hids.length-n) 0 ⟨aO _,fun i y hi=>absurd hi (bC _)⟩ ?_ ?_
 ·exact leA
 intro n ⟨hn,hhid0⟩;rcases aC n i.hids.length with hnl|hnl
 ·obtain⟨x,hx⟩:=gex hnl;(repeat' ((conv=>whnf);first|(with_reducible first|refine hZ hnl ?_|refine hU hx ?_|refine wG _ ?_|refine V5 _ _ _ ?_)|refine zG ?_|apply zA|intro h|exact zT));all_goals conv=>whnf
  all_goals first
   |(refine⟨n+1,⟨hnl,iD hx (by unfold hnB;simp_all) hhid0⟩,by omega,?_⟩
     rw[aN,aL];exact leA)
   |(refine iL hK (hno fun hn=>?_)
     have n1:=hn.h x (aI hx);simp only[hnB,aJ]at n1;first
      |exact h (of_decide_eq_true n1.2.2)
      |(rw[n1.2.1]at h;cases h;done)
      |(rw[n1.1]at h;cases h;done))
 have hhid:=iC hnl hhid0;(repeat' ((conv=>whnf);first|refine zG ?_|apply zA|intro h|exact zT));all_goals conv=>whnf
 exact jU hK (sO ⟨hg,hs,h1,h2,h3,h4,hwin,mem hst,mem hpub,mem hhid⟩)
theorem aLu(raw:List Int)(pos:Nat)(l:List Df)(hl:l.length<=1000)(hp:pos<=raw.length)(hr:raw.length<=9223372036854775807){K:KT}
  (hK:∀(s:ByteArray) (pos':Nat),(s=⟨#[]⟩\/∃d,d∈l/\s=d.name)->pos'<=raw.length->K (.v (.string s)) [iI raw pos']):AC 139 [.op 0 0,.lst (l.map iG)] [iI raw pos] K:=by
 refine aGL rfl rfl ?_;(repeat' ((conv=>whnf);first|(with_reducible first|refine jF raw _ _ (by simp only[aA];omega) zp hr fun m1 p1 hm1 hp1=>?_|refine hZ (by simp only[aA]at*;omega) ?_|refine iB (by simp only[aA]at*;omega) fun d hd=>?_)|refine zG ?_|apply zA|intro h|exact zT));all_goals conv=>whnf
 all_goals first
  |exact hK _ _ (.inl rfl) zp
  |exact hK _ _ (.inr ⟨d,hd,rfl⟩) zp
theorem sI(raw:List Int)(pos:Nat)(top:Int)(t0:0<=top)(t1:top<=4294967295)(hp:pos<=raw.length)(hr:raw.length<=9223372036854775807){K:KT}
  (hK:∀(a:Int) (pos':Nat),0<=a->a<=top->pos'<=raw.length->K (.v (.int .u32 a)) [iI raw pos']):AC 48 [.op 0 0,.v (.int .u32 top)] [iI raw pos] K:=by
 refine aDb rfl rfl ?_;(repeat' ((conv=>whnf);first|(with_reducible first|refine jF raw _ _ zo zp hr fun m1 p1 hm1 hp1=>?_|refine iA zo ?_|refine iU fun r r0 r1=>?_)|refine zG ?_|apply zA|intro h|exact zT));all_goals conv=>whnf
 refine Oi Vc ?_ (by simp only[aB,aG];omega) ?_
 ·simp only[fP];(repeat' apply And.intro)<;>first|exact⟨_,rfl,by assumption,by assumption⟩|exact⟨_,rfl,by decide,by decide⟩|(intro _ h;cases h)
 ·rintro _ ⟨y,rfl,y0,y1⟩
  (repeat' ((conv=>whnf);first|refine zG ?_|apply zA|intro h|exact zT));all_goals conv=>whnf
  all_goals exact hK _ _ zo zo zp
theorem aET(raw:List Int)(pos:Nat)(top:Int)(t0:0<=top)(t1:top<=4294967295)(hp:pos<=raw.length)(hr:raw.length<=9223372036854775807){K:KT}
  (hK:∀(r:Rg) (pos':Nat),r.lo<=r.hi->r.hi<=top->pos'<=raw.length->K (jR r) [iI raw pos']):AC 69 [.op 0 0,.v (.int .u32 top)] [iI raw pos] K:=by
 refine aCu rfl rfl ?_;(repeat' ((conv=>whnf);first|(with_reducible refine sI raw _ top t0 t1 zp hr fun a p2 a0 a1 hp2=>?_)|refine zG ?_|apply zA|intro h|exact zT));all_goals conv=>whnf
 all_goals exact hK ⟨_,_,by omega,by omega,by omega,by omega⟩ _ zs zs zp
theorem aIR(n:Nat):(subL.getD n uJ).okP:=by
 have h:∀q,q∈subL->q.okP:=by decide+kernel
 rcases aC n subL.length with hn|hn
 ·rw[List.getD,aE hn];exact h _ (cX hn)
 ·rw[List.getD,bN hn];decide
theorem aPI{a c:Int}{K:Int->Prop}(c0:0<=c)(c1:c<32)(a0:0<=a)(a1:a<=4294967295)(hk:∀r:Int,0<=r->r<=4294967295->r%pz c=0->K r):
  Wr .u32 (a.fdiv (2^min (32-c).toNat IntKind.u32.bits)*2^min (32-c).toNat IntKind.u32.bits) K:=by
 have hb:IntKind.u32.bits=32:=rfl;have hp:=C4 c;have e:(2:Int)^min (32-c).toNat IntKind.u32.bits=pz c:=by
  rw[hb,fN zo,pz,Int.natCast_pow];rfl
 rw[e,Int.fdiv_eq_ediv_of_nonneg _ (Int.le_of_lt hp)];have h1:0<=a/pz c:=Int.ediv_nonneg a0 (Int.le_of_lt hp);have h2:a/pz c*pz c<=a:=Int.ediv_mul_le a zo;have h3:0<=a/pz c*pz c:=Int.mul_nonneg h1 (Int.le_of_lt hp);exact xO rfl h3 zo (hk _ h3 zo (Int.mul_emod_left _ _))
theorem aLv(raw:List Int)(pos:Nat)(hp:pos<=raw.length)(hr:raw.length<=9223372036854775807){K:KT}
  (hK:∀(q:Pf) (pos':Nat),q.okP->pos'<=raw.length->K (mT q) [iI raw pos']):AC 68 [.op 0 0] [iI raw pos] K:=by
 refine aGM rfl rfl ?_;(repeat' ((conv=>whnf);first|(with_reducible first|refine jF raw _ _ zo zp hr fun m1 p1 hm1 hp1=>?_|refine iA zo ?_|refine Qf _ zo ?_|refine Re [32,31,24,25,8,1,0,16,30,23] 10 0 32 rfl rfl zd zo fun c c0 c1=>?_|refine oV raw _ zp hr fun a p2 a0 a1 hp2=>?_|refine aPI zo zo a0 a1 fun r r0 r1 r2=>?_)|refine zG ?_|apply zA|intro h|exact zT));all_goals conv=>whnf
 all_goals first
  |exact hK _ _ (aIR _) zp
  |exact hK ⟨r,c,r0,r1⟩ _ ⟨c0,c1,r2⟩ zp
  |(refine hK ⟨a,c,a0,a1⟩ _ ⟨c0,c1,?_⟩ zp
    have hc:c=32:=by omega
    show a%pz c=0;rw[hc];exact Int.emod_one a)
theorem Wy:oH ⟨#[]⟩=true:=by unfold oH;rw[nS];rfl
theorem aDq{s:ByteArray}(h:kW s=true):oH s=true:=by unfold oH;rw[h,Bool.or_true]
theorem Jr:sEq ⟨#[]⟩ ⟨#[]⟩=true:=uN _
theorem Hr(raw:List Int)(pos:Nat)(l:List Df)(hn:∀d,d∈l->kW d.name=true)(hl:l.length<=1000)(hp:pos<=raw.length)(hr:raw.length<=9223372036854775807){K:KT}
  (hK:∀(s:ByteArray) (pos':Nat),oH s=true->pos'<=raw.length->K (.v (.string s)) [iI raw pos']):AC 139 [.op 0 0,.lst (l.map iG)] [iI raw pos] K:=
 aLu raw pos l hl hp hr fun s p h hp=>hK s p (by
  rcases h with rfl|⟨d,hd,rfl⟩
  ·exact Wy
  ·exact aDq (hn d hd)) hp
theorem aVc{p e:Bool}{f t s a b:ByteArray}(h1:oH f=true)(h2:oH t=true)(h3:oH s=true)(h4:e=true/\oH a=true/\oH b=true\/(a=⟨#[]⟩/\b=⟨#[]⟩)):smB ⟨p,f,t,s,e,a,b,⟨#[]⟩,⟨#[]⟩,0⟩=true:=by
 have hz:=Wy;have hy:=Jr;rcases h4 with⟨rfl,h5,h6⟩|⟨rfl,rfl⟩<;>simp_all[smB]
theorem aPJ{x:Sm}{c:ByteArray}(h:smB x=true)(hp:x.permit=true)(hc:oH c=true):smB ⟨x.permit,x.frm,x.to,x.svc,x.exc,x.exF,x.exT,c,x.dur,x.pri⟩=true:=by
 simp only[smB,aJ,bR]at h⊢;simp_all
theorem aPK{x:Sm}{c:ByteArray}(h:smB x=true)(hc:oH c=true):smB ⟨x.permit,x.frm,x.to,x.svc,x.exc,x.exF,x.exT,x.cls,c,x.pri⟩=true:=by
 simp only[smB,aJ,bR]at h⊢;simp_all
theorem aPM{x:Sm}{c:Int}(h:smB x=true)(h0:0<=c)(h1:c<=1000):smB ⟨x.permit,x.frm,x.to,x.svc,x.exc,x.exF,x.exT,x.cls,x.dur,c⟩=true:=by
 simp only[smB,aJ,bR,aM]at h⊢;simp_all
theorem aPL{raw:List Int}{L:Sm×Nat->Prop}(a:Bool)(b c d:ByteArray)(e:Bool)(f g:ByteArray)(q:Nat)(hL:L (⟨a,b,c,d,e,f,g,⟨#[]⟩,⟨#[]⟩,0⟩,q))(hR:q<=raw.length)(hB:smB ⟨a,b,c,d,e,f,g,⟨#[]⟩,⟨#[]⟩,0⟩=true):∃g:Sm×Nat,(g.2<=raw.length/\smB g.1=true)/\L g:=⟨_,⟨hR,hB⟩,hL⟩
theorem aRn(raw:List Int)(pos:Nat)(t:Tp)(htd:t.devs.length<=100)(gs ss:List Df)(ws:List Wn)(sts:List Sm)(hg:gs.length<=1000)(hs:ss.length<=1000)(hw:ws.length<=1000)(hp:pos<=raw.length)(hr:raw.length<=9223372036854775807){K:KT}
  (hcl:∀d,d∈t.devs->oH d.cls=true)(hgn:∀d,d∈gs->kW d.name=true)(hsn:∀d,d∈ss->kW d.name=true)(hwn:∀d,d∈ws->kW d.name=true)
  (hK:∀(s:Sm) (pos':Nat),smB s=true->pos'<=raw.length->K (jI s) [iI raw pos',.arr 10 (sts.map jI)]):
  AC 71 [.op 0 0,kB t,.agg [.lst (gs.map iG),.lst (ss.map iG),.lst (ws.map jD),.os 1 10 0 sts.length,.nils,.nils]] [iI raw pos,.arr 10 (sts.map jI)] K:=by
 refine aOi rfl rfl ?_;(repeat' ((conv=>whnf);first|(with_reducible first|refine jF raw _ _ zo zp hr fun m1 p1 hm1 hp1=>?_|refine Hr raw _ gs hgn hg zp hr fun s p2 hso hp2=>?_|refine Hr raw _ ss hsn hs zp hr fun s p2 hso hp2=>?_)|refine zG ?_|apply zA|intro h|exact zT));all_goals conv=>whnf
 all_goals
  refine gY (Sm×Nat) (fun g=>⟨6,[(0,iI raw g.2),(1,.arr 10 (sts.map jI)),(2,kU t),(3,.box [.lst (gs.map iG),.lst (ss.map iG),.lst (ws.map jD),.os 1 10 0 sts.length,.nils,.nils]),(4,Mm sm0),(5,Mm g.1)],[(0,.op 0 0),(4,.op 2 0),(5,.op 3 0),(6,.op 4 0),(7,.op 5 0)]⟩) (fun g=>g.2<=raw.length/\smB g.1=true) ?_ ?_
  ·(repeat' ((conv=>whnf);first|(with_reducible first|refine jF raw _ _ zo zp hr fun m1 p1 hm1 hp1=>?_|refine Hr raw _ gs hgn hg zp hr fun s p2 hso hp2=>?_|refine Hr raw _ ss hsn hs zp hr fun s p2 hso hp2=>?_)|refine zG ?_|apply zA|intro h|exact zT));all_goals conv=>whnf
   all_goals
    apply aPL
    ·exact leA
    ·with_reducible assumption
    ·exact aVc zw zw zw (by first|exact .inr ⟨rfl,rfl⟩|exact .inl ⟨rfl,by with_reducible assumption,by with_reducible assumption⟩)
  rintro⟨x,q⟩ ⟨hq,hx⟩
  simp only at hq hx⊢;(repeat' ((conv=>whnf);first|refine zG ?_|apply zA|intro h|exact zT));all_goals conv=>whnf
  refine gY (Sm×Nat) (fun g=>⟨6,[(0,iI raw g.2),(1,.arr 10 (sts.map jI)),(2,kU t),(3,.box [.lst (gs.map iG),.lst (ss.map iG),.lst (ws.map jD),.os 1 10 0 sts.length,.nils,.nils]),(4,Mm sm0),(5,Mm g.1)],[(0,.op 0 0),(4,.op 2 0),(5,.op 3 0),(6,.op 4 0),(7,.op 5 0)]⟩) (fun g=>g.2<=raw.length/\smB g.1=true) ?_ ?_
  ·(repeat' ((conv=>whnf);first|(with_reducible first|refine jF raw _ _ (by(try simp only[aA]);omega) zw hr fun m1 p1 hm1 hp1=>?_|refine hZ (by simp only[aA]at*;omega) ?_|refine iB (by simp only[aA]at*;omega) fun r hrm=>?_)|refine zG ?_|apply zA|intro h|exact zT));all_goals conv=>whnf
   all_goals first
    |(refine⟨(⟨x.permit,x.frm,x.to,x.svc,x.exc,x.exF,x.exT,r.cls,x.dur,x.pri⟩,p1),⟨zw,aPJ hx zw (hcl r zw)⟩,?_⟩
      exact leA)
    |(refine⟨(x,p1),⟨zw,hx⟩,?_⟩
      exact leA)
    |(refine⟨(x,q),⟨zw,hx⟩,?_⟩
      exact leA)
  clear hq hx q x
  rintro⟨x,q⟩ ⟨hq,hx⟩
  simp only at hq hx⊢;(repeat' ((conv=>whnf);first|refine zG ?_|apply zA|intro h|exact zT));all_goals conv=>whnf
  refine gY (Sm×Nat) (fun g=>⟨6,[(0,iI raw g.2),(1,.arr 10 (sts.map jI)),(2,kU t),(3,.box [.lst (gs.map iG),.lst (ss.map iG),.lst (ws.map jD),.os 1 10 0 sts.length,.nils,.nils]),(4,Mm sm0),(5,Mm g.1)],[(0,.op 0 0),(4,.op 2 0),(5,.op 3 0),(6,.op 4 0),(7,.op 5 0)]⟩) (fun g=>g.2<=raw.length/\smB g.1=true) ?_ ?_
  ·(repeat' ((conv=>whnf);first|(with_reducible first|refine jF raw _ _ (by(try simp only[aA]);omega) zw hr fun m1 p1 hm1 hp1=>?_|refine hZ (by simp only[aA]at*;omega) ?_|refine iB (by simp only[aA]at*;omega) fun r hrm=>?_)|refine zG ?_|apply zA|intro h|exact zT));all_goals conv=>whnf
   all_goals first
    |(refine⟨(⟨x.permit,x.frm,x.to,x.svc,x.exc,x.exF,x.exT,x.cls,r.name,x.pri⟩,p1),⟨zw,aPK hx (aDq (hwn r zw))⟩,?_⟩
      exact leA)
    |(refine⟨(x,p1),⟨zw,hx⟩,?_⟩
      exact leA)
    |(refine⟨(x,q),⟨zw,hx⟩,?_⟩
      exact leA)
  clear hq hx q x
  rintro⟨x,q⟩ ⟨hq,hx⟩
  simp only at hq hx⊢;(repeat' ((conv=>whnf);first|(with_reducible first|refine jF raw _ _ zo zw hr fun m1 p1 hm1 hp1=>?_|refine iA zo ?_|refine rP [0,0,1,5,1000] 5 rfl rfl zo fun c hc=>?_)|refine zG ?_|apply zA|intro h|exact zT));all_goals conv=>whnf
  have hc2:0<=c/\c<=1000:=(show ∀c:Int,c∈[0,0,1,5,1000]->0<=c/\c<=1000 by decide) c hc;exact hK ⟨x.permit,x.frm,x.to,x.svc,x.exc,x.exF,x.exT,x.cls,x.dur,c⟩ _ (aPM hx hc2.1 hc2.2) zw
def gN:List ByteArray:=[⟨#[103,49]⟩,⟨#[103,50]⟩,⟨#[103,51]⟩]
def sN:List ByteArray:=[⟨#[119,101,98]⟩,⟨#[115,115,104]⟩,⟨#[100,110,115]⟩]
theorem Wo{xs:List AV}{i:Nat}{K:AV->Prop}(L:List ByteArray)(n:Nat)(h:xs=L.map fun c=>.v (.string c))(hn:L.length=n)(hi:i<n)(hk:∀c,L[i]? =some c->K (.v (.string c))):Ix xs i K:=by
 subst h;subst hn;exact hU (aE hi) (hk _ (aE hi))
theorem qD{s:ByteArray}(h:uI s.data.toList=true):kW s=true:=by
 exact nD (mM h)
theorem aJI:∀s,s∈gN->kW s=true:=fun s hs=>qD ((show ∀s,s∈gN->uI s.data.toList=true by decide+kernel) s hs)
theorem aJU:∀s,s∈sN->kW s=true:=fun s hs=>qD ((show ∀s,s∈sN->uI s.data.toList=true by decide+kernel) s hs)
theorem aRE:∀(j i:Nat) (x y:ByteArray),j<i->gN[j]? =some x->gN[i]? =some y->sEq x y=false:=by
 have h:∀j i:Fin 3,j.val<i.val->Pa (gN.getD j.val default) (gN.getD i.val default)=false:=by decide+kernel
 intro j i x y hji hx hy;have h1:=(aP.1 hx).1;have h2:=(aP.1 hy).1;have:=h ⟨j,h1⟩ ⟨i,h2⟩ hji;simp only[List.getD,hx,hy,cY]at this;rw[nS];exact this
theorem aTS:∀(j i:Nat) (x y:ByteArray),j<i->sN[j]? =some x->sN[i]? =some y->sEq x y=false:=by
 have h:∀j i:Fin 3,j.val<i.val->Pa (sN.getD j.val default) (sN.getD i.val default)=false:=by decide+kernel
 intro j i x y hji hx hy;have h1:=(aP.1 hx).1;have h2:=(aP.1 hy).1;have:=h ⟨j,h1⟩ ⟨i,h2⟩ hji;simp only[List.getD,hx,hy,cY]at this;rw[nS];exact this
structure GDs (N:List ByteArray) (l:List Df) (g:Bool):Prop where
 nm:∀(i:Nat) d,l[i]? =some d->N[i]? =some d.name
 it:∀d,d∈l->1<=d.items.length/\d.items.length<=2
 ok:∀d,d∈l->∀y,y∈d.items->itB y g=true
theorem We{N:List ByteArray}{g:Bool}:GDs N [] g:=⟨fun i d h=>by simp at h,fun d h=>by simp at h,fun d h=>by simp at h⟩
theorem Q4{N:List ByteArray}{l:List Df}{g:Bool}(h:GDs N l g){c:ByteArray}{its:List It}(hc:N[l.length]? =some c)(h1:1<=its.length/\its.length<=2)(h2:∀y,y∈its->itB y g=true):GDs N (l++[⟨c,its⟩]) g where
 nm:=fun i d hd=>by
  rcases aC i l.length with hlt|hge
  ·rw[bE hlt]at hd;exact h.nm i d hd
  ·rw[bH hge]at hd;have:=(aP.1 hd).1;simp only[aB,aG]at this;have e:i=l.length:=by omega
   subst e;simp only[dT,eP,bQ]at hd;subst hd;exact hc
 it:=fun d hd=>by
  rcases aY.1 hd with hd|hd
  ·exact h.it d hd
  ·rw[aW.1 hd];exact h1
 ok:=fun d hd=>by
  rcases aY.1 hd with hd|hd
  ·exact h.ok d hd
  ·rw[aW.1 hd];exact h2
theorem Fk{N:List ByteArray}{l:List Df}{g:Bool}(h:GDs N l g)(hN:∀s,s∈N->kW s=true):∀d,d∈l->kW d.name=true:=fun d hd=>by
 obtain⟨i,hi⟩:=bM.1 hd;exact hN _ (aI (h.nm i d hi))
theorem aBp{N:List ByteArray}{l:List Df}{g:Bool}(h:GDs N l g)(hN:∀s,s∈N->kW s=true)(hne:∀(j i:Nat) (x y:ByteArray),j<i->N[j]? =some x->N[i]? =some y->sEq x y=false)(hl:l.length<=32):DfsOk l g:=by
 refine⟨hl,fun i d hd=>⟨Fk h hN d (aI hd),?_,(h.it d (aI hd)).1,bA (h.it d (aI hd)).2 zd,h.ok d (aI hd)⟩⟩;unfold Fh;exact jQ (p:=fun x=>sEq x.name d.name) hd (uN _) fun j y hj hy=>hne j i _ _ hj (h.nm j y hy) (h.nm i d hd)
theorem aBS{z:ByteArray}(h:kW z=true):itB ⟨1,z,uJ,0,zR⟩ true=true:=by simp[itB,h,itN,uJ,zR]
theorem aGp{q:Pf}(h:q.okP):itB ⟨2,⟨#[]⟩,q,0,zR⟩ true=true:=by
 have:=Jr;simp[itB,h,itP,zR,this]
theorem itB_name{z:ByteArray}{g:Bool}(h:kW z=true):itB ⟨3,z,uJ,0,zR⟩ g=true:=by simp[itB,h,itN,uJ,zR]
theorem Oh{v:Int}{r:Rg}(h:prB v r=true):itB ⟨4,⟨#[]⟩,uJ,v,r⟩ false=true:=by
 have:=Jr;simp[itB,h,itS,uJ,this]
theorem aPy{raw:List Int}{L:Nat×List Pb->Prop}(a b c:Int)(d:ByteArray)(e f:Int)(q:Nat)(hL:L (q,[⟨a,b,c,d,e,f⟩]))(hR:q<=raw.length)(hB:pbB ⟨a,b,c,d,e,f⟩=true):∃g:Nat×List Pb,(g.1<=raw.length/\g.2.length<=1/\∀x,x∈g.2->pbB x=true)/\L g:=⟨_,⟨hR,by simp,fun x hx=>by rw[aW.1 hx];exact hB⟩,hL⟩
structure TpN (t:Tp):Prop where
 cls:∀d,d∈t.devs->oH d.cls=true
 zone:∀e,e∈t.edges->kW e.zone=true
 edge:∀e,e∈t.edges->kW e.name=true
structure ENt (i:Nt):Prop where
 gen:GNt i
 ok:NtOk i
 g:GDs gN i.grps true
 s:GDs sN i.svcs false
 g1:1<=i.grps.length
 w1:i.wins.length<=1
 t3:i.sts.length<=4
 p1:i.pubs.length<=1
 h1:i.hids.length<=1
theorem aRl(raw:List Int)(pos:Nat)(t:Tp)(hte:t.edges.length<=5)(htd:t.devs.length<=100)(htn:TpN t)(ns:Nat)(hns:ns<=4)(hp:pos<=raw.length)(hr:raw.length<=9223372036854775807){K:KT}
  (hK:∀(i:Nt) (pos':Nat),ENt i->pos'<=raw.length->K (iS i) [iI raw pos']):
  AC 25 [.op 0 0,kB t,.v (.int .i64 ns)] [iI raw pos] K:=by
 refine aOe rfl rfl ?_;(repeat' ((conv=>whnf);first|(with_reducible refine jF raw _ _ zo zp hr fun m1 p1 hm1 hp1=>?_)|refine zG ?_|apply zA|intro h|exact zT));all_goals conv=>whnf
 refine gM (Nat×Nat×List Df) (fun g=>⟨7,[(0,iI raw g.1),(1,kU t),(2,vU),(3,.box [.os 4 2 0 g.2.2.length,.os 5 2 0 0,.os 6 2 0 0,.nils,.nils,.nils]),(4,.arr 2 (g.2.2.map iG)),(5,.arr 2 []),(6,.arr 2 [])],[(0,.op 0 0),(2,.v (.int .i64 ns)),(4,.op 1 0),(6,.op 2 0),(7,.op 3 0),(8,.v (.int .i64 g.2.1))]⟩)
  (fun g=>g.1<=raw.length/\(g.2.1+g.2.2.length<=3/\1<=g.2.1+g.2.2.length)/\GDs gN g.2.2 true) (fun g=>g.2.1) (p1,m1+1,[]) ⟨hp1,by simp only[aG];omega,We⟩ ?_ ?_
 ·rw[show(((p1,m1+1,[]):Nat×Nat×List Df).2.1:Int)=1+(m1:Int)from by simp only;omega];exact leA
 rintro⟨p,k,gs⟩ ⟨h1,⟨h2,h2b⟩,h3⟩
 simp only at h1 h2 h2b h3⊢;have hgnm:=Fk h3 aJI;rcases aC 0 k with hk|hk
 ·obtain⟨k',rfl⟩:∃k',k=k'+1:=⟨k-1,by omega⟩
  have hk1:((k'+1:Nat):Int)-1=(k':Int):=by omega
  (repeat' ((conv=>whnf);first|(with_reducible first|refine jF raw _ _ zo zp hr fun m1 p1 hm1 hp1=>?_|refine jB hk1 zo zo ?_|refine iA zo ?_|refine Wo gN 3 rfl rfl zo fun c hc=>?_)|refine zG ?_|apply zA|intro h|exact zT));all_goals conv=>whnf
  refine gM (Nat×Nat×List It) (fun g=>⟨9,[(0,iI raw g.1),(1,kU t),(2,vU),(3,.box [.os 4 2 0 gs.length,.os 5 2 0 0,.os 6 2 0 0,.nils,.nils,.nils]),(4,.arr 2 (gs.map iG)),(5,.arr 2 []),(6,.arr 2 []),(7,.box [.v (.string c),.os 8 7 0 g.2.2.length]),(8,.arr 7 (g.2.2.map kM))],[(0,.op 0 0),(2,.v (.int .i64 ns)),(4,.op 1 0),(6,.op 2 0),(7,.op 3 0),(8,.v (.int .i64 ((k'+1:Nat):Int))),(9,.op 7 0),(10,.v (.int .i64 g.2.1))]⟩)
   (fun g=>g.1<=raw.length/\(g.2.1+g.2.2.length<=2/\1<=g.2.1+g.2.2.length)/\∀y,y∈g.2.2->itB y true=true) (fun g=>g.2.1) (p1,m1+1,[]) ⟨by with_reducible assumption,by simp only[aG];omega,fun y h=>by simp at h⟩ ?_ ?_
  ·rw[show(((p1,m1+1,[]):Nat×Nat×List It).2.1:Int)=1+(m1:Int)from by simp only;omega];exact leA
  clear h1 p hm1 hp1 m1 p1
  rintro⟨p,m,its⟩ ⟨h1,⟨h4,h4b⟩,h9⟩
  simp only at h1 h4 h4b h9⊢;rcases aC 0 m with hm|hm
  ·obtain⟨m',rfl⟩:∃m',m=m'+1:=⟨m-1,by omega⟩
   have hm1:((m'+1:Nat):Int)-1=(m':Int):=by omega
   (repeat' ((conv=>whnf);first|(with_reducible refine aLv raw _ zw hr fun q p2 hqo hp2=>?_)|refine zG ?_|apply zA|intro h|exact zT));all_goals conv=>whnf
   all_goals
    refine gY (It×Nat) (fun g=>⟨10,[(0,iI raw g.2),(1,kU t),(2,vU),(3,.box [.os 4 2 0 gs.length,.os 5 2 0 0,.os 6 2 0 0,.nils,.nils,.nils]),(4,.arr 2 (gs.map iG)),(5,.arr 2 []),(6,.arr 2 []),(7,.box [.v (.string c),.os 8 7 0 its.length]),(8,.arr 7 (its.map kM)),(9,Wm g.1)],[(0,.op 0 0),(2,.v (.int .i64 ns)),(4,.op 1 0),(6,.op 2 0),(7,.op 3 0),(8,.v (.int .i64 ((k'+1:Nat):Int))),(9,.op 7 0),(10,.v (.int .i64 ((m'+1:Nat):Int))),(11,.op 9 0)]⟩) (fun g=>g.2<=raw.length/\itB g.1 true=true) ?_ ?_
    ·(repeat' ((conv=>whnf);first|(with_reducible first|refine jF raw _ _ (by(try simp only[aA]);omega) zw hr fun m1 p1 hm1 hp1=>?_|refine hZ (by(try simp only[aA]at*);omega) ?_|refine iB (f:=mX) (by(try simp only[aA]at*);omega) fun e he=>?_)|refine zG ?_|apply zA|intro h|exact zT));all_goals conv=>whnf
     all_goals first
      |(refine⟨(⟨1,e.zone,uJ,0,zR⟩,p1),⟨zw,aBS (htn.zone e zw)⟩,?_⟩
        exact leA)
      |(refine⟨(⟨2,⟨#[]⟩,q,0,zR⟩,p1),⟨zw,aGp hqo⟩,?_⟩
        exact leA)
    rintro⟨y0,p4⟩ ⟨hp4,hy0⟩
    simp only at hp4 hy0⊢;(repeat' ((conv=>whnf);first|refine zG ?_|apply zA|intro h|exact zT));all_goals conv=>whnf
    all_goals
     refine gY (It×Nat) (fun g=>⟨10,[(0,iI raw g.2),(1,kU t),(2,vU),(3,.box [.os 4 2 0 gs.length,.os 5 2 0 0,.os 6 2 0 0,.nils,.nils,.nils]),(4,.arr 2 (gs.map iG)),(5,.arr 2 []),(6,.arr 2 []),(7,.box [.v (.string c),.os 8 7 0 its.length]),(8,.arr 7 (its.map kM)),(9,Wm g.1)],[(0,.op 0 0),(2,.v (.int .i64 ns)),(4,.op 1 0),(6,.op 2 0),(7,.op 3 0),(8,.v (.int .i64 ((k'+1:Nat):Int))),(9,.op 7 0),(10,.v (.int .i64 ((m'+1:Nat):Int))),(11,.op 9 0)]⟩) (fun g=>g.2<=raw.length/\itB g.1 true=true) ?_ ?_
     ·(repeat' ((conv=>whnf);first|(with_reducible first|refine jF raw _ _ (by(try simp only[aA]);omega) zw hr fun m1 p1 hm1 hp1=>?_|refine gU 0 rfl (by(try simp only[aA]at*);omega) ?_|refine iB (f:=iG) (by(try simp only[aA]at*);omega) fun d hd=>?_)|refine zG ?_|apply zA|intro h|exact zT));all_goals conv=>whnf
      all_goals first
       |(refine⟨(⟨3,d.name,uJ,0,zR⟩,p1),⟨zw,itB_name (hgnm d zw)⟩,?_⟩
         exact leA)
       |(refine⟨(y0,p1),⟨zw,hy0⟩,?_⟩
         exact leA)
       |(refine⟨(y0,p4),⟨zw,hy0⟩,?_⟩
         exact leA)
     rintro⟨y,p3⟩ ⟨hp3,hyv⟩
     simp only at hp3 hyv⊢;(repeat' ((conv=>whnf);first|(with_reducible refine jB hm1 zo zo ?_)|refine zG ?_|apply zA|intro h|exact zT));all_goals conv=>whnf
     refine⟨(p3,m',its++[y]),⟨hp3,by simp only[aD,aB,aG];omega,fun z hz=>by
      rcases aY.1 hz with hz|hz
      ·exact h9 z hz
      ·rw[aW.1 hz];exact hyv⟩,by simp only;omega,?_⟩
     simp only[aQ,aD,aR,bL,aB,aG];exact leA
  ·obtain rfl:m=0:=by omega
   (repeat' ((conv=>whnf);first|(with_reducible refine jB hk1 zo zo ?_)|refine zG ?_|apply zA|intro h|exact zT));all_goals conv=>whnf
   refine⟨(p,k',gs++[⟨c,its⟩]),⟨h1,by simp only[aD,aB,aG];omega,Q4 h3 (by rw[<-hc,bD]) zo h9⟩,by simp only;omega,?_⟩;simp only[aQ,aD,aR,bL,aB,aG];exact leA
 obtain rfl:k=0:=by omega
 clear hk;(repeat' ((conv=>whnf);first|(with_reducible refine jF raw _ _ zo zw hr fun m1 p1 hm1 hp1=>?_)|refine zG ?_|apply zA|intro h|exact zT));all_goals conv=>whnf
 refine gM (Nat×Nat×List Df) (fun g=>⟨7,[(0,iI raw g.1),(1,kU t),(2,vU),(3,.box [.os 4 2 0 gs.length,.os 5 2 0 g.2.2.length,.os 6 2 0 0,.nils,.nils,.nils]),(4,.arr 2 (gs.map iG)),(5,.arr 2 (g.2.2.map iG)),(6,.arr 2 [])],[(0,.op 0 0),(2,.v (.int .i64 ns)),(4,.op 1 0),(6,.op 2 0),(7,.op 3 0),(13,.v (.int .i64 g.2.1))]⟩)
  (fun g=>g.1<=raw.length/\g.2.1+g.2.2.length<=2/\GDs sN g.2.2 false/\∀d,d∈g.2.2->∀y,y∈d.items->Pu y) (fun g=>g.2.1) (p1,m1,[]) ⟨by with_reducible assumption,by simp only[aG];omega,We,fun d h=>by simp at h⟩ ?_ ?_
 ·exact leA
 clear h1 p hm1 hp1 m1 p1
 rintro⟨p,k,ss⟩ ⟨h1,h4,h5,h6⟩
 simp only at h1 h4 h5 h6⊢;have hsnm:=Fk h5 aJU;rcases aC 0 k with hk|hk
 ·obtain⟨k',rfl⟩:∃k',k=k'+1:=⟨k-1,by omega⟩
  have hk1:((k'+1:Nat):Int)-1=(k':Int):=by omega
  (repeat' ((conv=>whnf);first|(with_reducible first|refine jF raw _ _ (by(try simp only[aA]);omega) zw hr fun m1 p1 hm1 hp1=>?_|refine jB hk1 zo zo ?_|refine iA zo ?_|refine Wo sN 3 rfl rfl zo fun c hc=>?_)|refine zG ?_|apply zA|intro h|exact zT));all_goals conv=>whnf
  refine gM (Nat×Nat×List It) (fun g=>⟨9,[(0,iI raw g.1),(1,kU t),(2,vU),(3,.box [.os 4 2 0 gs.length,.os 5 2 0 ss.length,.os 6 2 0 0,.nils,.nils,.nils]),(4,.arr 2 (gs.map iG)),(5,.arr 2 (ss.map iG)),(6,.arr 2 []),(7,.box [.v (.string c),.os 8 7 0 g.2.2.length]),(8,.arr 7 (g.2.2.map kM))],[(0,.op 0 0),(2,.v (.int .i64 ns)),(4,.op 1 0),(6,.op 2 0),(7,.op 3 0),(13,.v (.int .i64 ((k'+1:Nat):Int))),(14,.op 7 0),(15,.v (.int .i64 g.2.1))]⟩)
   (fun g=>g.1<=raw.length/\(g.2.1+g.2.2.length<=2/\1<=g.2.1+g.2.2.length)/\∀y,y∈g.2.2->Pu y/\itB y false=true) (fun g=>g.2.1) (p1,m1+1,[]) ⟨by with_reducible assumption,by simp only[aG];omega,fun y h=>by simp at h⟩ ?_ ?_
  ·rw[show(((p1,m1+1,[]):Nat×Nat×List It).2.1:Int)=1+(m1:Int)from by simp only;omega];exact leA
  clear h1 p hm1 hp1 m1 p1
  rintro⟨p,m,its⟩ ⟨h1,⟨h7,h7b⟩,h8⟩
  simp only at h1 h7 h7b h8⊢;rcases aC 0 m with hm|hm
  ·obtain⟨m',rfl⟩:∃m',m=m'+1:=⟨m-1,by omega⟩
   have hmm:((m'+1:Nat):Int)-1=(m':Int):=by omega
   (repeat' ((conv=>whnf);first|(with_reducible first|refine jF raw _ _ (by(try simp only[aA]);omega) zw hr fun m1 p1 hm1 hp1=>?_|refine iA zo ?_|refine rP [6,17,6,1,50] 5 rfl rfl zo fun v hv=>?_)|refine zG ?_|apply zA|intro h|exact zT));all_goals conv=>whnf
   simp only[aV,dR,or_false]at hv;refine gY (It×Nat) (fun g=>⟨10,[(0,iI raw g.2),(1,kU t),(2,vU),(3,.box [.os 4 2 0 gs.length,.os 5 2 0 ss.length,.os 6 2 0 0,.nils,.nils,.nils]),(4,.arr 2 (gs.map iG)),(5,.arr 2 (ss.map iG)),(6,.arr 2 []),(7,.box [.v (.string c),.os 8 7 0 its.length]),(8,.arr 7 (its.map kM)),(9,Wm g.1)],[(0,.op 0 0),(2,.v (.int .i64 ns)),(4,.op 1 0),(6,.op 2 0),(7,.op 3 0),(13,.v (.int .i64 ((k'+1:Nat):Int))),(14,.op 7 0),(15,.v (.int .i64 ((m'+1:Nat):Int))),(16,.op 9 0)]⟩) (fun g=>g.2<=raw.length/\Pu g.1/\itB g.1 false=true) ?_ ?_
   ·(repeat' ((conv=>whnf);first|(with_reducible refine aET raw _ 65535 zd zd zw hr fun r p2 hlo hhi hp2=>?_)|refine zG ?_|apply zA|intro h|exact zT));all_goals conv=>whnf
    all_goals first
     |(refine⟨(⟨4,⟨#[]⟩,uJ,v,⟨8,8,by decide,by decide,by decide,by decide⟩⟩,p1),⟨by with_reducible assumption,.inr (.inr (.inl ⟨by simp only;omega,rfl,rfl⟩)),Oh (by rw[show v=1 by omega];rfl)⟩,?_⟩
       exact leA)
     |(refine⟨(⟨4,⟨#[]⟩,uJ,v,r⟩,p2),⟨by with_reducible assumption,.inr (.inl zs),Oh (by rw[prB,aH zo];exact decide_eq_true ⟨hlo,hhi⟩)⟩,?_⟩
       exact leA)
     |(refine⟨(⟨4,⟨#[]⟩,uJ,v,zR⟩,p1),⟨by with_reducible assumption,.inr (.inr (.inr ⟨by simp only;omega,rfl,rfl⟩)),Oh (by rw[show v=50 by omega];rfl)⟩,?_⟩
       exact leA)
   rintro⟨y0,p4⟩ ⟨hp4,hy0⟩
   simp only at hp4 hy0⊢;(repeat' ((conv=>whnf);first|refine zG ?_|apply zA|intro h|exact zT));all_goals conv=>whnf
   refine gY (It×Nat) (fun g=>⟨10,[(0,iI raw g.2),(1,kU t),(2,vU),(3,.box [.os 4 2 0 gs.length,.os 5 2 0 ss.length,.os 6 2 0 0,.nils,.nils,.nils]),(4,.arr 2 (gs.map iG)),(5,.arr 2 (ss.map iG)),(6,.arr 2 []),(7,.box [.v (.string c),.os 8 7 0 its.length]),(8,.arr 7 (its.map kM)),(9,Wm g.1)],[(0,.op 0 0),(2,.v (.int .i64 ns)),(4,.op 1 0),(6,.op 2 0),(7,.op 3 0),(13,.v (.int .i64 ((k'+1:Nat):Int))),(14,.op 7 0),(15,.v (.int .i64 ((m'+1:Nat):Int))),(16,.op 9 0)]⟩) (fun g=>g.2<=raw.length/\Pu g.1/\itB g.1 false=true) ?_ ?_
   ·(repeat' ((conv=>whnf);first|(with_reducible first|refine jF raw _ _ (by(try simp only[aA]);omega) zw hr fun m1 p1 hm1 hp1=>?_|refine gU 0 rfl (by(try simp only[aA]at*);omega) ?_|refine iB (f:=iG) (by(try simp only[aA]at*);omega) fun d hd=>?_)|refine zG ?_|apply zA|intro h|exact zT));all_goals conv=>whnf
    all_goals first
     |(refine⟨(⟨3,d.name,uJ,0,zR⟩,p1),⟨by with_reducible assumption,.inl ⟨rfl,rfl,rfl,rfl⟩,itB_name (hsnm d zw)⟩,?_⟩
       exact leA)
     |(refine⟨(y0,p1),⟨by with_reducible assumption,hy0⟩,?_⟩
       exact leA)
     |(refine⟨(y0,p4),⟨by with_reducible assumption,hy0⟩,?_⟩
       exact leA)
   rintro⟨y,p3⟩ ⟨hp3,hyv⟩
   simp only at hp3 hyv⊢;(repeat' ((conv=>whnf);first|(with_reducible refine jB hmm zo zo ?_)|refine zG ?_|apply zA|intro h|exact zT));all_goals conv=>whnf
   refine⟨(p3,m',its++[y]),⟨hp3,by simp only[aD,aB,aG];omega,fun z hz=>by
    rcases aY.1 hz with hz|hz
    ·exact h8 z hz
    ·rw[aW.1 hz];exact hyv⟩,by simp only;omega,?_⟩
   simp only[aQ,aD,aR,bL,aB,aG];exact leA
  ·obtain rfl:m=0:=by omega
   (repeat' ((conv=>whnf);first|(with_reducible refine jB hk1 zo zo ?_)|refine zG ?_|apply zA|intro h|exact zT));all_goals conv=>whnf
   refine⟨(p,k',ss++[⟨c,its⟩]),⟨h1,by simp only[aD,aB,aG];omega,Q4 h5 (by rw[<-hc,bD]) zo (fun y hy=>(h8 y hy).2),fun d hd=>by
    rcases aY.1 hd with hd|hd
    ·exact h6 d hd
    ·rw[aW.1 hd];exact fun y hy=>(h8 y hy).1⟩,by simp only;omega,?_⟩
   simp only[aQ,aD,aR,bL,aB,aG];exact leA
 obtain rfl:k=0:=by omega
 clear hk;(repeat' ((conv=>whnf);first|refine zG ?_|apply zA|intro h|exact zT));all_goals conv=>whnf
 refine gY (Nat×List Wn) (fun g=>⟨7,[(0,iI raw g.1),(1,kU t),(2,vU),(3,.box [.os 4 2 0 gs.length,.os 5 2 0 ss.length,.os 6 2 0 g.2.length,.nils,.nils,.nils]),(4,.arr 2 (gs.map iG)),(5,.arr 2 (ss.map iG)),(6,.arr 2 (g.2.map jD))],[(0,.op 0 0),(2,.v (.int .i64 ns)),(4,.op 1 0),(6,.op 2 0),(7,.op 3 0)]⟩)
  (fun g=>g.1<=raw.length/\g.2.length<=1/\∀w,w∈g.2->w.name=⟨#[119,111,114,107]⟩/\WinOk w.act/\w.act.length<=16) ?_ ?_
 ·(repeat' ((conv=>whnf);first|(with_reducible first|refine jF raw _ _ (by(try simp only[aA]);omega) zw hr fun m1 p1 hm1 hp1=>?_|refine aRo raw _ zw hr fun rs p2 hrs hrl hp2=>?_)|refine zG ?_|apply zA|intro h|exact zT));all_goals conv=>whnf
  all_goals first
   |(refine⟨(p2,[⟨⟨#[119,111,114,107]⟩,rs⟩]),⟨by with_reducible assumption,by simp,fun w hw=>by rw[aW.1 hw];exact⟨rfl,hrs,hrl⟩⟩,?_⟩
     exact leA)
   |(refine⟨(p1,[]),⟨by with_reducible assumption,by simp,fun w hw=>by simp at hw⟩,?_⟩
     exact leA)
 rintro⟨p5,ws⟩ ⟨hp5,hw1,hw2⟩
 simp only at hp5 hw1 hw2⊢;have hwnm:∀w,w∈ws->kW w.name=true:=fun w hw=>by rw[(hw2 w hw).1];exact qD (by decide+kernel)
 (repeat' ((conv=>whnf);first|(with_reducible first|refine iP (aA ..) ?_|refine jF raw _ _ (by(try simp only[aA]);omega) zw hr fun m1 p1 hm1 hp1=>?_)|refine zG ?_|apply zA|intro h|exact zT));all_goals conv=>whnf
 refine gM (Nat×Nat×List Sm) (fun g=>⟨5,[(0,iI raw g.1),(1,kU t),(2,vU),(3,.box [.lst (gs.map iG),.lst (ss.map iG),.lst (ws.map jD),.os 4 10 0 g.2.2.length,.nils,.nils]),(4,.arr 10 (g.2.2.map jI))],[(0,.op 0 0),(4,.op 1 0),(6,.op 2 0),(7,.op 3 0),(17,.v (.int .i64 g.2.1))]⟩)
  (fun g=>g.1<=raw.length/\g.2.1+g.2.2.length<=4/\∀x,x∈g.2.2->smB x=true) (fun g=>g.2.1) (p1,m1,[]) ⟨by with_reducible assumption,by simp only[aG];omega,fun x h=>by simp at h⟩ ?_ ?_
 ·exact leA
 clear h1 p hm1 hp1 m1 p1
 rintro⟨p,k,sts⟩ ⟨h1,h7,hst⟩
 simp only at h1 h7 hst⊢;rcases aC 0 k with hk|hk
 ·obtain⟨k',rfl⟩:∃k',k=k'+1:=⟨k-1,by omega⟩
  have hkk:((k'+1:Nat):Int)-1=(k':Int):=by omega
  (repeat' ((conv=>whnf);first|(with_reducible first|refine jB hkk zo zo ?_|refine aRn raw _ t htd gs ss ws sts zo zo zo zw hr htn.cls hgnm hsnm hwnm fun x p2 hxo hp2=>?_)|refine zG ?_|apply zA|intro h|exact zT));all_goals conv=>whnf
  all_goals
   refine⟨(p2,k',sts++[x]),⟨by with_reducible assumption,by simp only[aD,aB,aG];omega,fun z hz=>by
    rcases aY.1 hz with hz|hz
    ·exact hst z hz
    ·rw[aW.1 hz];exact hxo⟩,by simp only;omega,?_⟩
   simp only[aQ,aD,aR,bL,aB,aG];exact leA
 obtain rfl:k=0:=by omega
 clear hk;(repeat' ((conv=>whnf);first|refine zG ?_|apply zA|intro h|exact zT));all_goals conv=>whnf
 refine gY (Nat×List Pb) (fun g=>⟨7,[(0,iI raw g.1),(1,kU t),(2,vU),(3,.box [.lst (gs.map iG),.lst (ss.map iG),.lst (ws.map jD),.os 4 10 0 sts.length,.os 5 6 0 g.2.length,.os 6 5 0 0]),(4,.arr 10 (sts.map jI)),(5,.arr 6 (g.2.map kG)),(6,.arr 5 [])],[(0,.op 0 0),(4,.op 1 0),(6,.op 2 0),(7,.op 3 0)]⟩) (fun g=>g.1<=raw.length/\g.2.length<=1/\∀x,x∈g.2->pbB x=true) ?_ ?_
 ·(repeat' ((conv=>whnf);first|(with_reducible first|refine jF raw _ _ (by(try simp only[aA]);omega) zw hr fun m1 p1 hm1 hp1=>?_|refine gU 1 rfl (by(try simp only[aA]at*);omega) ?_|refine gU 0 rfl (by(try simp only[aA]at*);omega) ?_|refine iB (f:=mX) (by(try simp only[aA]at*);omega) fun e he=>?_|refine Xx _ ?_|refine iA zo ?_|refine rP [6,17] 2 rfl rfl zo fun v hv=>?_|refine sI raw _ 65535 zd zd zw hr fun a p2 a0 a1 hp2=>?_)|refine zG ?_|apply zA|intro h|exact zT));all_goals conv=>whnf
  all_goals first
   |(refine⟨(p1,[]),⟨by with_reducible assumption,by simp,fun x h=>by simp at h⟩,?_⟩
     exact leA)
   |(refine⟨(p,[]),⟨by with_reducible assumption,by simp,fun x h=>by simp at h⟩,?_⟩
     exact leA)
   |(apply aPy
     ·exact leA
     ·with_reducible assumption
     ·have hnm:=htn.edge _ zw;simp only[aV,dR,or_false]at hv;simp only[pbB,ptB,hnm,eY,aJ,bR,aM];omega)
 rintro⟨p6,pbs⟩ ⟨hp6,hb1,hb2⟩
 simp only at hp6 hb1 hb2⊢;(repeat' ((conv=>whnf);first|refine zG ?_|apply zA|intro h|exact zT));all_goals conv=>whnf
 refine gY (Nat×List Hn) (fun g=>⟨7,[(0,iI raw g.1),(1,kU t),(2,vU),(3,.box [.lst (gs.map iG),.lst (ss.map iG),.lst (ws.map jD),.os 4 10 0 sts.length,.os 5 6 0 pbs.length,.os 6 5 0 g.2.length]),(4,.arr 10 (sts.map jI)),(5,.arr 6 (pbs.map kG)),(6,.arr 5 (g.2.map kK))],[(0,.op 0 0),(4,.op 1 0),(6,.op 2 0),(7,.op 3 0)]⟩) (fun g=>g.1<=raw.length/\g.2.length<=1/\∀x,x∈g.2->hnB x=true) ?_ ?_
 ·(repeat' ((conv=>whnf);first|(with_reducible first|refine jF raw _ _ (by(try simp only[aA]);omega) zw hr fun m1 p1 hm1 hp1=>?_|refine hZ (by(try simp only[aA]at*);omega) ?_|refine iB (f:=mX) (by(try simp only[aA]at*);omega) fun e he=>?_)|refine zG ?_|apply zA|intro h|exact zT));all_goals conv=>whnf
  all_goals first
   |(refine⟨(p1,[⟨⟨#[103,49]⟩,e.name,3325256705,⟨1024,1024+(m1:Int),by decide,by decide,by omega,by omega⟩⟩]),⟨by with_reducible assumption,by simp,fun x h=>by
      rw[aW.1 h];have hnm:=htn.edge e zw;have hg1:kW ⟨#[103,49]⟩=true:=qD (by decide+kernel);simp only[hnB,hnm,hg1,dQ,aM];omega⟩,?_⟩
     exact leA)
   |(refine⟨(p1,[]),⟨by with_reducible assumption,by simp,fun x h=>by simp at h⟩,?_⟩
     exact leA)
   |(refine⟨(p6,[]),⟨by with_reducible assumption,by simp,fun x h=>by simp at h⟩,?_⟩
     exact leA)
 rintro⟨p7,hds⟩ ⟨hp7,hh1,hh2⟩
 simp only at hp7 hh1 hh2⊢;(repeat' ((conv=>whnf);first|(with_reducible refine iP (aA ..) ?_)|refine zG ?_|apply zA|intro h|exact zT));all_goals conv=>whnf
 refine hK ⟨gs,ss,ws,sts,pbs,hds⟩ p7 ⟨⟨⟨⟨by simp only;omega,by simp only;omega,by simp only;omega,by simp only;omega,by simp only;omega,by simp only;omega,fun d hd=>bA (h3.it d hd).2 zd,fun d hd=>bA (h5.it d hd).2 zd,fun w hw=>?_⟩,by simp only;omega,by simp only;omega,fun d hd=>(h3.it d hd).2,fun d hd=>(h5.it d hd).2⟩,by simp only;omega,h6⟩,
  ⟨aBp h3 aJI aRE zs,aBp h5 aJU aTS zs,by simp only;omega,by simp only;omega,by simp only;omega,by simp only;omega,fun i x hx=>?_,hst,hb2,hh2⟩,h3,h5,by simp only;omega,by simp only;omega,by simp only;omega,by simp only;omega,by simp only;omega⟩ hp7
 ·exact bA (hw2 w hw).2.2 zd
 ·have hi:=(aP.1 hx).1;obtain rfl:i=0:=by simp only at hi;omega
  refine⟨hwnm x (aI hx),?_,(hw2 x (aI hx)).2.1⟩;unfold E6;exact jQ (p:=fun y=>sEq y.name x.name) hx (uN _) fun j y hj _=>absurd hj (bC _)
theorem aIW{t:Tp}(h:GTop t):TpN t where
 cls:=fun d hd=>by
  obtain⟨i,hi⟩:=bM.1 hd;have hc:=(h.dv i d hi).cls;have hl:∀s,s∈clL->Pa s ⟨#[]⟩=true\/uI s.data.toList=true:=by decide+kernel
  unfold oH;rw[bR];rcases hl _ hc with h1|h1
  ·exact .inl (by rw[nS];exact h1)
  ·exact .inr (qD h1)
 zone:=fun e he=>by
  obtain⟨i,hi⟩:=bM.1 he;have hz:=(h.ed i e hi).zone;exact qD ((show ∀s,s∈zoL->uI s.data.toList=true by decide+kernel) _ hz)
 edge:=fun e he=>by
  obtain⟨i,hi⟩:=bM.1 he;have hl:=(aP.1 hi).1;have h5:=h.e5;rw[(h.ed i e hi).name];exact qD ((show ∀j:Fin 5,uI (enL.getD j.val default).data.toList=true by decide+kernel) ⟨i,by omega⟩)
theorem Hz(l:List Df)(h:∀d,d∈l->d.items.length<=2):Hb l<=2*l.length:=by
 unfold Hb
 induction l with
 |nil=>simp
 |cons d l ih=>
  have:=ih fun x hx=>h x (aS _ hx);have:=h d zx;simp only[aR,dC,aB];omega
theorem aEj{i:Nt}(h:ENt i):Bnd i:=by
 have f:=h.gen.few;have o:=h.ok;have g3:=f.g3;have s3:=f.s3;have a:=Hz _ f.gi;have b:=Hz _ f.si;have c1:=o.wl;have c2:=o.tl;have c3:=o.pl;have c4:=o.hl;exact⟨by omega,by omega,by omega,by omega,by omega,by omega,fun x hx=>bA (f.gi x hx) zd,fun x hx=>bA (f.si x hx) zd,f.sml.wi,by omega,by omega⟩
end Go.Proofs.YtnomkooikbhgmaaGreatDoor
