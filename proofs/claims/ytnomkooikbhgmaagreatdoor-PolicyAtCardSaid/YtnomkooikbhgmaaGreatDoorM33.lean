/- Lemmas. -/
import Derived.Test.YtnomkooikbhgmaaGreatDoorM32
set_option linter.unusedVariables false
set_option linter.unusedSimpArgs false
set_option maxRecDepth 100000
set_option maxHeartbeats 4000000
noncomputable section
namespace Go.Proofs.YtnomkooikbhgmaaGreatDoor
open Go Go.Vm
def atB(s:ByteArray)(c:Int)(i:Nat):Bool:=match s[i]? with
 |some b=>decide ((b.toNat:Int)=c)
 |none=>true
def prt(s:ByteArray)(c:Int):Nat->List ByteArray×Nat
 |0=>([],0)
 |i+1=>if atB s c i=true then((prt s c i).1++[s.extract (prt s c i).2 i],i+1)else prt s c i
theorem prt_le(s:ByteArray)(c:Int):∀i,(prt s c i).2<=i/\(prt s c i).1.length<=i
 |0=>⟨aM _,aM _⟩
 |i+1=>by
  have:=prt_le s c i;rw[prt];split
  ·simp only[aC,aB,aH];omega
  ·omega
theorem at_end(s:ByteArray)(c:Int):atB s c s.size=true:=by rw[atB,getElem?_neg s s.size (Nat.lt_irrefl _)]
theorem prt_end(s:ByteArray)(c:Int):(prt s c (s.size+1)).1=(prt s c s.size).1++[s.extract (prt s c s.size).2 s.size]:=by
 rw[prt,aG (at_end s c)]
def prtL(s:ByteArray)(c:Int):List ByteArray:=(prt s c (s.size+1)).1
theorem prtL_ne(s:ByteArray)(c:Int):prtL s c≠[]:=by rw[prtL,prt_end];simp
theorem djParts(s:ByteArray)(c:Int)(hs:s.size<=1000){K:KT}(hK:K (.lst ((prtL s c).map encSt)) []):AC 279 [.v (.string s),.v (.int .u8 c)] [] K:=by
 refine ofq1Parts rfl rfl ?_;(repeat' ((conv=>whnf);first|refine zG ?_|apply zA|intro h|exact zT));all_goals conv=>whnf
 refine gL (List ByteArray×Nat×Nat) (fun g=>⟨1,[(0,.arr 1 (g.1.map encSt))],[(0,.v (.string s)),(1,.v (.int .u8 c)),(5,.os 0 1 0 g.1.length),(6,.v (.int .i64 g.2.1)),(7,.v (.int .i64 g.2.2))]⟩)
  (fun g=>g.2.2<=s.size+1/\prt s c g.2.2=(g.1,g.2.1)) (fun g=>s.size+1-g.2.2) ([],0,0) ⟨by simp only;omega,rfl⟩ ?_ ?_
 ·exact leA
 rintro⟨l,a,i⟩ ⟨h1,hg⟩
 simp only at h1 hg⊢;have hle:=prt_le s c i;rw[hg]at hle;obtain⟨h2,h3⟩:=hle;simp only at h2 h3;rcases aF i (s.size+1)with hl|hl
 ·have hstep:prt s c (i+1)=if atB s c i=true then(l++[s.extract a i],i+1)else(l,a):=by rw[prt,hg]
  (repeat' ((conv=>whnf);first|(with_reducible first|refine hZ zo ?_|refine ix_ba zo fun b hb=>?_|refine gY a i rfl rfl zo zo ?_)|refine zG ?_|apply zA|intro h|exact zT));all_goals conv=>whnf
  all_goals first
   |(have hno:atB s c i=false:=by rw[atB,hb];exact decide_eq_false h
     rw[hno,aD zd]at hstep;refine⟨(l,a,i+1),⟨by simp only;omega,hstep⟩,by simp only;omega,?_⟩;rw[show(((l,a,i+1):List ByteArray×Nat×Nat).2.2:Int)=(i:Int)+1 from by simp only;omega];exact leA)
   |(have hyes:atB s c i=true:=by
      first
       |(rw[atB,hb];exact decide_eq_true h)
       |(rw[show i=s.size by omega];exact at_end s c)
     rw[hyes,aG rfl]at hstep;refine⟨(l++[s.extract a i],i+1,i+1),⟨by simp only;omega,hstep⟩,by simp only;omega,?_⟩;simp only[aQ,aC,aR,bL,aB,aH,aO,aN];exact leA)
   |(exfalso;omega)
 ·(repeat' ((conv=>whnf);first|(with_reducible refine sl_full (aA ..) ?_)|refine zG ?_|apply zA|intro h|exact zT));all_goals conv=>whnf
  rw[prtL,show s.size+1=i by omega,hg]at hK;exact hK
def dayIx(s:ByteArray):Int:=firstIx (fun x=>sEq x s) dayL
theorem djDay(s:ByteArray){K:KT}(hK:K (.v (.int .i64 (dayIx s))) []):AC 280 [.v (.string s)] [] K:=by
 unfold dayIx at hK;refine ofq9Day rfl rfl ?_;(repeat' ((conv=>whnf);first|(with_reducible refine cqDays ?_)|refine zG ?_|apply zA|intro h|exact zT));all_goals conv=>whnf
 refine gL Nat (fun i=>⟨0,[],[(0,.v (.string s)),(3,.lst (dayL.map encSt)),(4,.v (.int .i64 i))]⟩) (fun i=>i<=dayL.length/\∀(j:Nat) y,j<i->dayL[j]? =some y->sEq y s=false) (fun i=>dayL.length-i) 0 ⟨aK _,fun i y hi=>absurd hi (bC _)⟩ ?_ ?_
 ·exact leA
 intro i ⟨hi,hinv⟩;have h7:dayL.length=7:=rfl;rcases aF i dayL.length with hl|hl
 ·obtain⟨x,hx⟩:=gex hl;(repeat' ((conv=>whnf);first|(with_reducible first|refine hU hl ?_|refine hJ hx ?_)|refine zG ?_|apply zA|intro h|exact zT));all_goals conv=>whnf
  ·rw[firstIx_at (p:=fun x=>sEq x s) hx (show sEq x s=true from h) hinv]at hK;exact hK
  ·refine⟨i+1,⟨hl,before_succ (p:=fun x:ByteArray=>sEq x s) hx h hinv⟩,by omega,?_⟩;rw[aO,aN];exact leA
 ·(repeat' ((conv=>whnf);first|refine zG ?_|apply zA|intro h|exact zT));all_goals conv=>whnf
  rw[firstIx_none (p:=fun x=>sEq x s) (iB hl hinv)]at hK;exact hK
structure DayW (s:ByteArray):Prop where
 size:s.size<=1000
 two:(prtL s 45).length<=2
 ok:∀x y,(prtL s 45)[0]? =some x->(prtL s 45)[(prtL s 45).length-1]? =some y->0<=dayIx x/\dayIx x<=dayIx y/\dayIx y<=6/\dayIx y<=dayIx x+4
theorem djSpan(s:ByteArray)(hs:DayW s){K:KT}(hK:∀a b:Int,0<=a->a<=b->b<=6->b<=a+4->K (.tup [.v (.int .i64 a),.v (.int .i64 b)]) []):AC 209 [.v (.string s)] [] K:=by
 have h2:=hs.two;have hok:=hs.ok;have hpos:=dA.2 (prtL_ne s 45);refine ofq9Span rfl rfl ?_;have hp:=fun {K} h=>@djParts s 45 hs.size K h;generalize prtL s 45=l at*;have hm:((l.length:Nat):Int)-1=((l.length-1:Nat):Int):=by omega
 obtain⟨x,hx⟩:=gex hpos;obtain⟨y,hy⟩:∃y,l[l.length-1]? =some y:=⟨_,aE zo⟩
 obtain⟨q0,q1,q2,q3⟩:=hok x y hx hy;(repeat' ((conv=>whnf);first|(with_reducible refine hp ?_)|(refine gT 0 rfl (by rw[aA];omega) ?_)|(with_reducible first|refine wr_i64 (r:=((l.length-1:Nat):Int)) (by rw[aA];omega) zo zo ?_|refine hU zo ?_|refine hJ hx ?_|refine hJ hy ?_|refine djDay _ ?_)|refine zG ?_|apply zA|intro h|exact zT));all_goals conv=>whnf
 all_goals first
  |exact hK _ _ q0 q1 q2 q3
  |(exfalso;simp only[aA]at*;omega)
def dayD(s:ByteArray):Int:=firstIx (fun x=>sEqD x s) dayL
theorem day_eq(s:ByteArray):dayIx s=dayD s:=by
 unfold dayIx dayD
 congr 1
 funext x
 rw[sEq_data];rfl
theorem winL_days:∀s,s∈winL->DayW s:=by
 have h:∀s,s∈winL->s.size<=1000/\(prtL s 45).length<=2/\(0<=dayD ((prtL s 45).getD 0 s)/\dayD ((prtL s 45).getD 0 s)<=dayD ((prtL s 45).getD ((prtL s 45).length-1) s)/\dayD ((prtL s 45).getD ((prtL s 45).length-1) s)<=6/\dayD ((prtL s 45).getD ((prtL s 45).length-1) s)<=dayD ((prtL s 45).getD 0 s)+4):=by decide+kernel
 intro s hs;obtain⟨h1,h2,h3⟩:=h s hs;refine⟨h1,h2,fun x y hx hy=>?_⟩;rw[List.getD,hx,List.getD,hy]at h3;rw[day_eq,day_eq];exact h3
theorem djTimes(s:ByteArray)(hs:s.size<=1000){K:KT}(hK:∀a b:Int,(a= -1\/(0<=a/\a<b))->b<=1440-> -1<=b->K (.tup [.v (.int .i64 a),.v (.int .i64 b)]) []):AC 210 [.v (.string s)] [] K:=by
 refine ofq9Times rfl rfl ?_;(repeat' ((conv=>whnf);first|(with_reducible refine cqParts s _ hs fun l hl hn=>?_)|(refine gT 0 rfl zo ?_)|(refine gT 1 rfl zo ?_)|(with_reducible first|refine iA (by simp only[aA]at*;omega) fun c hc=>?_|refine cqClock _ fun r r0 r1=>?_)|refine zG ?_|apply zA|intro h|exact zT));all_goals conv=>whnf
 all_goals first
  |exact hK _ _ zo zo zo
def OutOk(out:List Rg):Prop:=∀r,r∈out->∃d:Nat,d<7/\1440*(d:Int)<=r.lo/\r.lo<=r.hi/\r.hi<=1440*(d:Int)+1439
def inD(d:Nat)(r:Rg):Bool:=decide (1440*(d:Int)<=r.lo)&&decide (r.hi<=1440*(d:Int)+1439)
theorem ind_le{p:Nat->Bool}{k:Nat}(h:∀d,p d=true->d=k):∀n,((List.range n).map fun d=>if p d=true then 1 else 0).sum<=if k<n then 1 else 0
 |0=>by simp
 |n+1=>by
  have ih:=ind_le h n;rw[fK,aQ,List.sum_append];simp only[aR,bL,dB,List.sum_nil];by_cases hp:p n=true
  ·have:=h n hp;subst this;rw[aG hp,aG (Nat.lt_succ_self _)];rw[aD (Nat.lt_irrefl _)]at ih;omega
  ·rw[aD hp];split at ih
   ·rw[aG zo];omega
   ·split<;>omega
theorem sum_add2{α:Type}(f g:α->Nat):∀l:List α,(l.map fun d=>f d+g d).sum=(l.map f).sum+(l.map g).sum
 |[]=>rfl
 |x::l=>by simp only[aR,dB,sum_add2 f g l];omega
theorem sum_days:∀out:List Rg,(∀r,r∈out->r.lo<=r.hi)->((List.range 7).map fun d=>(out.filter (inD d)).length).sum<=out.length
 |[],_=>Nat.le_of_eq rfl
 |r::out,h=>by
  have ih:=sum_days out fun x hx=>h x (aS _ hx);have e:((List.range 7).map fun d=>((r::out).filter (inD d)).length)=(List.range 7).map fun d=>(if inD d r=true then 1 else 0)+(out.filter (inD d)).length:=by
   refine eA fun d _=>?_;rw[eY];split
   ·rw[aB];omega
   ·omega
  have hr:=h r zx;have h1:=ind_le (p:=fun d=>inD d r) (k:=(r.lo/1440).toNat) (fun d hd=>by
   simp only[inD,aJ,aL]at hd;omega) 7
  rw[e,sum_add2,aB];have h2:(if(r.lo/1440).toNat<7 then 1 else 0)<=1:=by split<;>omega
  omega
theorem win_of_out{out rs:List Rg}(ho:OutOk out)(hl:out.length<=16)(hc:Canon rs)(hh:∀v,has rs v=has out v):WinOk rs:=by
 refine⟨hc,fun r hr=>?_,?_⟩
 ·have h1:=has_iff.2 ⟨r,hr,hc.1 r hr,cI _⟩;rw[hh]at h1;obtain⟨q,hq,q1,q2⟩:=has_iff.1 h1;obtain⟨d,d1,d2,d3,d4⟩:=ho q hq;omega
 ·have hd:∀d,(dayW rs d).length<=(out.filter (inD d)).length:=fun d=>by
   have e:(fun v=>has rs v&&(decide (1440*(d:Int)<=v)&&decide (v<=1440*(d:Int)+1439)))=has (out.filter (inD d)):=by
    funext v
    rw[hh,bJ];simp only[aJ,aL];constructor
    ·rintro⟨h1,h2,h3⟩
     obtain⟨q,hq,q1,q2⟩:=has_iff.1 h1;obtain⟨e,d1,d2,d3,d4⟩:=ho q hq;have:e=d:=by omega
     subst this;exact has_iff.2 ⟨q,cJ.2 ⟨hq,by simp only[inD,aJ,aL];omega⟩,q1,q2⟩
    ·intro h;obtain⟨q,hq,q1,q2⟩:=has_iff.1 h;obtain⟨hq1,hq2⟩:=cJ.1 hq;simp only[inD,aJ,aL]at hq2;exact⟨has_iff.2 ⟨q,hq1,q1,q2⟩,by omega,by omega⟩
   unfold dayW;rw[e];exact canO_len _
  have hs:=sum_days out fun r hr=>by obtain⟨d,d1,d2,d3,d4⟩:=ho r hr;exact d3
  have hm:cntW rs 7<=((List.range 7).map fun d=>(out.filter (inD d)).length).sum:=by
   unfold cntW;generalize List.range 7=l
   induction l with
   |nil=>simp
   |cons x l ih=>simp only[aR,dB];have:=hd x;omega
  omega
theorem win_nil:WinOk []:=win_of_out (out:=[]) (fun r h=>by cases h) zx canon_nil fun v=>rfl
structure Wds (ws:List ByteArray):Prop where
 mod:ws.length%3=2
 len:ws.length<=8
 size:∀s,s∈ws->s.size<=1000
 day:∀(j:Nat) s,ws[3*j]? =some s->DayW s
theorem djParse(ws:List ByteArray)(hw:Wds ws){K:KT}(hK:∀(rs:List Rg) (e:Int),WinOk rs->rs.length<=16->K (.tup [encRs rs,.v (.int .i64 e)]) []):AC 138 [.lst (ws.map encSt)] [] K:=by
 have hl:=hw.len;have hmod:=hw.mod;have hm:(ws.length:Int).tmod 3=((ws.length%3:Nat):Int):=by rw[fL zo];omega
 refine gP (ofq9Parse rfl rfl ?_);(repeat' ((conv=>whnf);first|(refine gT 0 rfl zo ?_)|(with_reducible first|refine iA (by simp only[aA]at*;omega) fun c hc=>?_|refine Ob.intro zd ?_)|refine zG ?_|apply zA|intro h|exact zT));all_goals conv=>whnf
 all_goals first
  |exact⟨_,gQ gR gM,hK [] _ win_nil zx⟩
  |skip
 all_goals
  refine gL (Nat×List Rg) (fun g=>⟨1,[(0,.arr 2 (g.2.map encR))],[(0,.lst (ws.map encSt)),(4,.os 0 2 0 g.2.length),(5,.v (.int .i64 (3*g.1:Nat)))]⟩)
   (fun g=>3*g.1<=ws.length+1/\g.2.length<=5*g.1/\OutOk g.2) (fun g=>ws.length+3-3*g.1) (0,[]) ⟨aK _,aK _,fun r h=>by cases h⟩ ?_ ?_
  ·exact leA
  rintro⟨i,out⟩ ⟨h2,h3,h4⟩
  simp only at h2 h3 h4⊢;rcases aF (3*i) ws.length with hil|hil
  ·have hi1:3*i+1<ws.length:=by omega
   obtain⟨s0,hs0⟩:∃s,ws[3*i]? =some s:=⟨_,aE hil⟩
   obtain⟨s1,hs1⟩:∃s,ws[3*i+1]? =some s:=⟨_,aE hi1⟩
   (repeat' ((conv=>whnf);first|(with_reducible first|refine hU hil ?_|refine hJ hs0 ?_|refine gT (3*i+1) zo (by rw[aA];exact hi1) ?_|refine hJ hs1 ?_|refine djSpan s0 (hw.day i s0 hs0) fun a b a0 a1 a2 a3=>?_|refine djTimes s1 (hw.size _ (aI hs1)) fun f g f0 g1 g0=>?_|refine gT (3*i+2) zo (by rw[aA]at*;omega) ?_|refine iA (by simp only[aA]at*;omega) fun c hc=>?_)|refine zG ?_|apply zA|intro h|exact zT));all_goals conv=>whnf
   all_goals first
    |exact⟨_,gQ gR gM,hK [] _ win_nil zx⟩
    |skip
   all_goals
    have hf:0<=f/\f<g:=by omega
    refine gL (Int×List Rg) (fun q=>⟨1,[(0,.arr 2 (q.2.map encR))],[(0,.lst (ws.map encSt)),(4,.os 0 2 0 q.2.length),(5,.v (.int .i64 (3*i:Nat))),(7,.v (.int .i64 b)),(8,.v (.int .i64 f)),(9,.v (.int .i64 g)),(10,.v (.int .i64 q.1))]⟩)
     (fun q=>a<=q.1/\q.1<=b+1/\(q.2.length:Int)<=5*i+(q.1-a)/\OutOk q.2) (fun q=>(7-q.1).toNat) (a,out) ⟨by simp only;omega,by simp only;omega,by simp only;omega,h4⟩ ?_ ?_
    ·exact leA
    rintro⟨d,ou⟩ ⟨k1,k2,k3,k4⟩
    simp only at k1 k2 k3 k4⊢;rcases eM b d with hbd|hbd
    ·(repeat' ((conv=>whnf);first|refine zG ?_|apply zA|intro h|exact zT));all_goals conv=>whnf
     refine⟨(i+1,ou),⟨by simp only;omega,by simp only;omega,k4⟩,by simp only;omega,?_⟩;rw[show((3*((i+1,ou):Nat×List Rg).1:Nat):Int)=((3*i:Nat):Int)+3 from by simp only;omega];exact leA
    ·(repeat' ((conv=>whnf);first|(with_reducible first|refine wr_i64 rfl zo zo ?_|refine wr_u32 rfl zo zo ?_)|refine zG ?_|apply zA|intro h|exact zT));all_goals conv=>whnf
     refine⟨(d+1,ou++[⟨1440*d+f,1440*d+g-1,by omega,by omega,by omega,by omega⟩]),⟨by simp only;omega,by simp only;omega,by simp only[aC,aB,aH];omega,fun r hr=>?_⟩,by simp only;omega,?_⟩
     ·rcases aX.1 hr with hr|hr
      ·exact k4 r hr
      ·rw[aV.1 hr];exact⟨d.toNat,by omega,by simp only;omega,by simp only;omega,by simp only;omega⟩
     ·simp only[aQ,aC,aR,bL,aB,aH];exact leA
  ·(repeat' ((conv=>whnf);first|(with_reducible first|refine Ob.intro zd ?_|refine wr_any fun r=>?_|refine sl_full (aA ..) ?_)|(refine c14 out [] zo zx fun rs q1 q2 q3=>?_)|refine zG ?_|apply zA|intro h|exact zT));all_goals conv=>whnf
   all_goals first
    |exact⟨_,gQ gR gM,hK [] _ win_nil zx⟩
    |exact⟨_,gM,hK _ _ (win_of_out h4 zo q1 fun v=>by rw[q2,has_nil];simp) (aZ (canon_len (rs:=out) q1 fun v=>by rw[q2,has_nil];simp) zo)⟩
theorem wds_two{c e:ByteArray}(hc:c∈winL)(he:e.size<=1000):Wds [c,e] where
 mod:=rfl
 len:=by simp
 size:=fun s hs=>by
  simp only[aU,dM,or_false]at hs;rcases hs with rfl|rfl
  ·exact(winL_days _ hc).size
  ·exact he
 day:=fun j s hs=>by
  have:=(aP.1 hs).1;simp only[aB,aH]at this;obtain rfl:j=0:=by omega
  cases hs;exact winL_days _ hc
theorem wds_snoc{ws:List ByteArray}{x y:ByteArray}(h:Wds ws)(hl:ws.length<=5)(hx:x∈winL)(hy:y.size<=1000):Wds (ws++[⟨#[44]⟩,x,y]) where
 mod:=by have:=h.mod;simp only[aC,aB,aH];omega
 len:=by simp only[aC,aB,aH];omega
 size:=fun s hs=>by
  rcases aX.1 hs with hs|hs
  ·exact h.size s hs
  ·simp only[aU,dM,or_false]at hs;rcases hs with rfl|rfl|rfl
   ·decide
   ·exact(winL_days _ hx).size
   ·exact hy
 day:=fun j s hs=>by
  have hm:=h.mod;rcases aF (3*j) ws.length with hlt|hge
  ·rw[bD hlt]at hs;exact h.day j s hs
  ·rw[bG hge]at hs;have:=(aP.1 hs).1;simp only[aB,aH]at this;rw[show 3*j-ws.length=1 by omega]at hs;cases hs;exact winL_days _ hx
theorem enWin(raw:List Int)(pos:Nat)(hp:pos<=raw.length)(hr:raw.length<=9223372036854775807){K:KT}
  (hK:∀(rs:List Rg) (pos':Nat),WinOk rs->rs.length<=16->pos'<=raw.length->K (encRs rs) [tapeO raw pos']):AC 70 [.op 0 0] [tapeO raw pos] K:=by
 have b2:∀s,s∈houL->s.size<=1000:=by decide+kernel
 refine ofnWin rfl rfl ?_;(repeat' ((conv=>whnf);first|(with_reducible first|refine nNext raw _ _ zo zp hr fun m1 p1 hm1 hp1=>?_|refine hZ zo ?_|refine ix_strs winL 6 rfl rfl zo fun c hc=>?_|refine ix_strs houL 5 rfl rfl zo fun e he=>?_)|refine zG ?_|apply zA|intro h|exact zT));all_goals conv=>whnf
 all_goals
  refine gL (Nat×Nat×List ByteArray) (fun g=>⟨4,[(0,tapeO raw g.1),(1,.arr 1 (winL.map encSt)),(2,.arr 1 (houL.map encSt)),(3,.arr 1 (g.2.2.map encSt))],[(0,.op 0 0),(3,.os 1 1 0 6),(4,.os 2 1 0 5),(5,.os 3 1 0 g.2.2.length),(6,.v (.int .i64 g.2.1))]⟩)
   (fun g=>g.1<=raw.length/\3*g.2.1+g.2.2.length<=8/\Wds g.2.2) (fun g=>g.2.1) (p1,m1,[c,e]) ⟨hp1,by simp only[aB,aH];omega,wds_two hc (b2 _ he)⟩ ?_ ?_
  ·exact leA
  rintro⟨p2,i,ws⟩ ⟨h1,h2,h3⟩
  simp only at h1 h2 h3⊢;rcases aF 0 i with hi0|hi0
  ·obtain⟨i',rfl⟩:∃i',i=i'+1:=⟨i-1,by omega⟩
   have hi1:((i'+1:Nat):Int)-1=(i':Int):=by omega
   (repeat' ((conv=>whnf);first|(with_reducible first|refine wr_i64 hi1 zo zo ?_|refine nNext raw _ _ zo zp hr fun m1 p1 hm1 hp1=>?_|refine hZ zo ?_|refine ix_strs winL 6 rfl rfl zo fun x hx=>?_|refine ix_strs houL 5 rfl rfl zo fun y hy=>?_)|refine zG ?_|apply zA|intro h|exact zT));all_goals conv=>whnf
   all_goals first
    |(refine⟨(p1,i',ws++[⟨#[44]⟩,x,y]),⟨hp1,by simp only[aC,aB,aH];omega,wds_snoc h3 zo hx (b2 _ hy)⟩,by simp only;omega,?_⟩
      simp only[aQ,aC,aR,bL,aB,aH];(exact leA))
  ·obtain rfl:i=0:=by omega
   (repeat' ((conv=>whnf);first|(with_reducible first|refine sl_full (aA ..) ?_|refine djParse ws h3 fun rs e hrs hrl=>?_)|refine zG ?_|apply zA|intro h|exact zT));all_goals conv=>whnf
   exact hK _ _ hrs hrl h1
theorem djSm(x:Sm){K:KT}(hK:K (.sb (smB x)) []):AC 90 [encSm x] [] K:=by
 refine gO (ofj16Sm rfl rfl ?_);(repeat' ((conv=>whnf);first|(with_reducible refine djOpt _ ?_)|refine zG ?_|apply zA|intro h|exact zT));all_goals conv=>whnf
 all_goals first
  |refine fin_t hK ?_
  |refine fin_f hK ?_
  |refine fin_s hK ?_
 all_goals
  unfold smB;simp_all[sEq]
 all_goals omega
theorem djDefs(l:List Df)(g:Bool)(hl:l.length<=999)(hi:∀x,x∈l->x.items.length<=999){K:KT}(hK:K (.sb (dfsB l g)) []):AC 86 [.lst (l.map encDf),.sb g] [] K:=by
 refine gO (ofj16Defs rfl rfl ?_);have hno:(DfsOk l g->False)->dfsB l g=false:=dfsB_false;(repeat' ((conv=>whnf);first|refine zG ?_|apply zA|intro h|exact zT));all_goals conv=>whnf
 ·exact fin_f hK (hno fun hn=>by have:=hn.len;simp only[aA]at*;omega)
 refine gL Nat (fun i=>⟨0,[],[(0,.lst (l.map encDf)),(1,.sb g),(5,.v (.int .i64 i))]⟩) (fun i=>i<=l.length/\∀(j:Nat) d,j<i->l[j]? =some d->DfOk l g j d) (fun i=>l.length-i) 0 ⟨aK _,fun i y hi=>absurd hi (bC _)⟩ ?_ ?_
 ·exact leA
 intro i ⟨hil0,hinv⟩;rcases aF i l.length with hil|hil
 ·obtain⟨x,hx⟩:=gex hil;have hxi:=hi x (aI hx);have hno:(DfOk l g i x->False)->dfsB l g=false:=fun h=>dfsB_false fun hn=>h (hn.all i x hx);(repeat' ((conv=>whnf);first|(with_reducible first|refine hU hil ?_|refine hJ hx ?_|refine crName _ ?_|refine djFind l _ zo ?_)|refine zG ?_|apply zA|intro h|exact zT));all_goals conv=>whnf
  all_goals first
   |(refine fin_f hK (hno fun hn=>?_)
     have n1:=hn.name;have n2:=hn.first;have n3:=hn.lo;have n4:=hn.hi
     (try simp only[aA]at*)
     first
      |omega
      |simp_all)
   |skip
  have h1:nameB x.name=true:=by with_reducible assumption
  have h2:dfIx l x.name=i:=by omega
  have h3:1<=x.items.length:=by simp only[aA]at*;omega
  have h4:x.items.length<=16:=by simp only[aA]at*;omega
  refine gL Nat (fun k=>⟨0,[],[(0,.lst (l.map encDf)),(1,.sb g),(5,.v (.int .i64 i)),(6,.v (.int .i64 k))]⟩) (fun k=>k<=x.items.length/\∀(j:Nat) y,j<k->x.items[j]? =some y->itB y g=true) (fun k=>x.items.length-k) 0 ⟨aK _,fun i y hi=>absurd hi (bC _)⟩ ?_ ?_
  ·exact leA
  intro k ⟨hk0,hkv⟩;rcases aF k x.items.length with hkl|hkl
  ·obtain⟨y,hy⟩:=gex hkl;(repeat' ((conv=>whnf);first|(with_reducible first|refine hU hil ?_|refine hJ hx ?_|refine hU hkl ?_|refine hJ hy ?_|refine djItem y _ ?_)|refine zG ?_|apply zA|intro h|exact zT));all_goals conv=>whnf
   all_goals first
    |(refine⟨k+1,⟨hkl,iC hy h hkv⟩,by omega,?_⟩
      rw[aO,aN];exact leA)
    |(refine fin_f hK (hno fun hn=>?_)
      rw[hn.all y (aI hy)]at h;cases h)
  ·(repeat' ((conv=>whnf);first|(with_reducible first|refine hU hil ?_|refine hJ hx ?_)|refine zG ?_|apply zA|intro h|exact zT));all_goals conv=>whnf
   have hall:=iB hkl hkv;refine⟨i+1,⟨hil,iC hx ⟨h1,h2,h3,h4,fun y hy=>?_⟩ hinv⟩,by omega,?_⟩
   ·obtain⟨j,hj⟩:=bN.1 hy;exact hall j y hj
   ·rw[aO,aN];exact leA
 ·(repeat' ((conv=>whnf);first|refine zG ?_|apply zA|intro h|exact zT));all_goals conv=>whnf
  refine fin_t hK (dfsB_true ⟨?_,iB hil hinv⟩);simp only[aA]at*;omega
theorem djDefsV(l:List Df)(g:Bool)(hl:l.length<=999)(hi:∀x,x∈l->x.items.length<=999){K:KT}(hK:K (.sb (dfsB l g)) []):AC 86 [.lst (l.map encDf),.v (.bool g)] [] K:=
 ACall.args (ys:=[.lst (l.map encDf),.sb g]) ⟨Weak.refl,Weak.bool,trivial⟩ (djDefs l g hl hi hK)
theorem djNt(i:Nt)(hb:Bnd i){K:KT}(hK:K (.sb (ntB i)) []):AC 35 [encNt i] [] K:=by
 have bg:=hb.g;have bs:=hb.s;have bw:=hb.w;have bt:=hb.t;have bp:=hb.p;have bh:=hb.h;refine gO (ofj16Val rfl rfl ?_);have hno:(NtOk i->False)->ntB i=false:=ntB_false;have mem:∀{α:Type} {l:List α} {P:α->Prop},(∀(j:Nat) y,l[j]? =some y->P y)->∀x,x∈l->P x:=fun h x hx=>by
  obtain⟨j,hj⟩:=bN.1 hx;exact h j x hj
 have hG:∀{K:KT},K (.sb (dfsB i.grps true)) []->AC 86 [.lst (i.grps.map encDf),.v (.bool true)] [] K:=fun h=>djDefsV i.grps true bg hb.gi h;have hS:∀{K:KT},K (.sb (dfsB i.svcs false)) []->AC 86 [.lst (i.svcs.map encDf),.v (.bool false)] [] K:=fun h=>djDefsV i.svcs false bs hb.si h;(repeat' ((conv=>whnf);first|(with_reducible first|refine hG ?_|refine hS ?_)|refine zG ?_|apply zA|intro h|exact zT));all_goals conv=>whnf
 all_goals first
  |(refine fin_f hK (hno fun hn=>?_)
    have n1:=hn.wl;have n2:=hn.tl;have n3:=hn.pl;have n4:=hn.hl;(try simp only[aA]at*)
    first
     |omega
     |(rw[dfsB_true hn.g]at h;cases h;done)
     |(rw[dfsB_true hn.s]at h;cases h;done))
  |skip
 have hg:DfsOk i.grps true:=dfsB_iff.1 zw;have hs:DfsOk i.svcs false:=dfsB_iff.1 zw;have h1:i.wins.length<=32:=by simp only[aA]at*;omega
 have h2:i.sts.length<=64:=by simp only[aA]at*;omega
 have h3:i.pubs.length<=16:=by simp only[aA]at*;omega
 have h4:i.hids.length<=8:=by simp only[aA]at*;omega
 refine gL Nat (fun n=>⟨1,[(0,boxNt i)],[(1,.op 0 0),(3,.v (.int .i64 n))]⟩) (fun n=>n<=i.wins.length/\∀(j:Nat) y,j<n->i.wins[j]? =some y->WnOk i.wins j y) (fun n=>i.wins.length-n) 0 ⟨aK _,fun i y hi=>absurd hi (bC _)⟩ ?_ ?_
 ·exact leA
 intro n ⟨hn,hwin0⟩;rcases aF n i.wins.length with hnl|hnl
 ·obtain⟨x,hx⟩:=gex hnl;have hxa:=hb.wi x (aI hx);(repeat' ((conv=>whnf);first|(with_reducible first|refine hU hnl ?_|refine hJ hx ?_|refine djWri _ hxa ?_|refine crName _ ?_|refine djFindW _ _ zo ?_)|refine zG ?_|apply zA|intro h|exact zT));all_goals conv=>whnf
  all_goals first
   |(refine⟨n+1,⟨hnl,iC hx ⟨by with_reducible assumption,by omega,winB_iff.1 zw⟩ hwin0⟩,by omega,?_⟩
     rw[aO,aN];exact leA)
   |(refine fin_f hK (hno fun hn=>?_)
     have n1:=hn.w n x hx;have n2:=winB_iff.2 n1.act;have n3:=n1.name;have n4:=n1.first
     first
      |exact h n4
      |omega
      |(rw[n2]at h;cases h;done)
      |(rw[n3]at h;cases h;done))
 have hwin:=iB hnl hwin0;(repeat' ((conv=>whnf);first|refine zG ?_|apply zA|intro h|exact zT));all_goals conv=>whnf
 refine gL Nat (fun n=>⟨1,[(0,boxNt i)],[(1,.op 0 0),(4,.v (.int .i64 n))]⟩) (fun n=>n<=i.sts.length/\∀(j:Nat) y,j<n->i.sts[j]? =some y->smB y=true) (fun n=>i.sts.length-n) 0 ⟨aK _,fun i y hi=>absurd hi (bC _)⟩ ?_ ?_
 ·exact leA
 intro n ⟨hn,hst0⟩;rcases aF n i.sts.length with hnl|hnl
 ·obtain⟨x,hx⟩:=gex hnl;(repeat' ((conv=>whnf);first|(with_reducible first|refine hU hnl ?_|refine hJ hx ?_|refine djSm x ?_)|refine zG ?_|apply zA|intro h|exact zT));all_goals conv=>whnf
  all_goals first
   |(refine⟨n+1,⟨hnl,iC hx h hst0⟩,by omega,?_⟩
     rw[aO,aN];exact leA)
   |(refine fin_f hK (hno fun hn=>?_)
     rw[hn.t x (aI hx)]at h;cases h)
 have hst:=iB hnl hst0;(repeat' ((conv=>whnf);first|refine zG ?_|apply zA|intro h|exact zT));all_goals conv=>whnf
 refine gL Nat (fun n=>⟨1,[(0,boxNt i)],[(1,.op 0 0),(5,.v (.int .i64 n))]⟩) (fun n=>n<=i.pubs.length/\∀(j:Nat) y,j<n->i.pubs[j]? =some y->pbB y=true) (fun n=>i.pubs.length-n) 0 ⟨aK _,fun i y hi=>absurd hi (bC _)⟩ ?_ ?_
 ·exact leA
 intro n ⟨hn,hpub0⟩;rcases aF n i.pubs.length with hnl|hnl
 ·obtain⟨x,hx⟩:=gex hnl;(repeat' ((conv=>whnf);first|(with_reducible first|refine hU hnl ?_|refine hJ hx ?_|refine djPort _ ?_|refine crName _ ?_)|refine zG ?_|apply zA|intro h|exact zT));all_goals conv=>whnf
  all_goals first
   |(refine⟨n+1,⟨hnl,iC hx (by unfold pbB;simp_all) hpub0⟩,by omega,?_⟩
     rw[aO,aN];exact leA)
   |(refine fin_f hK (hno fun hn=>?_)
     have n1:=hn.p x (aI hx);clear hwin hst hpub0;unfold pbB at n1;simp_all)
 have hpub:=iB hnl hpub0;(repeat' ((conv=>whnf);first|refine zG ?_|apply zA|intro h|exact zT));all_goals conv=>whnf
 refine gL Nat (fun n=>⟨1,[(0,boxNt i)],[(1,.op 0 0),(7,.v (.int .i64 n))]⟩) (fun n=>n<=i.hids.length/\∀(j:Nat) y,j<n->i.hids[j]? =some y->hnB y=true) (fun n=>i.hids.length-n) 0 ⟨aK _,fun i y hi=>absurd hi (bC _)⟩ ?_ ?_
 ·exact leA
 intro n ⟨hn,hhid0⟩;rcases aF n i.hids.length with hnl|hnl
 ·obtain⟨x,hx⟩:=gex hnl;(repeat' ((conv=>whnf);first|(with_reducible first|refine hU hnl ?_|refine hJ hx ?_|refine crName _ ?_|refine djPorts _ _ _ ?_)|refine zG ?_|apply zA|intro h|exact zT));all_goals conv=>whnf
  all_goals first
   |(refine⟨n+1,⟨hnl,iC hx (by unfold hnB;simp_all) hhid0⟩,by omega,?_⟩
     rw[aO,aN];exact leA)
   |(refine fin_f hK (hno fun hn=>?_)
     have n1:=hn.h x (aI hx);simp only[hnB,aJ]at n1;first
      |exact h (of_decide_eq_true n1.2.2)
      |(rw[n1.2.1]at h;cases h;done)
      |(rw[n1.1]at h;cases h;done))
 have hhid:=iB hnl hhid0;(repeat' ((conv=>whnf);first|refine zG ?_|apply zA|intro h|exact zT));all_goals conv=>whnf
 exact fin_t hK (ntB_true ⟨hg,hs,h1,h2,h3,h4,hwin,mem hst,mem hpub,mem hhid⟩)
theorem enPick(raw:List Int)(pos:Nat)(l:List Df)(hl:l.length<=1000)(hp:pos<=raw.length)(hr:raw.length<=9223372036854775807){K:KT}
  (hK:∀(s:ByteArray) (pos':Nat),(s=⟨#[]⟩\/∃d,d∈l/\s=d.name)->pos'<=raw.length->K (.v (.string s)) [tapeO raw pos']):AC 139 [.op 0 0,.lst (l.map encDf)] [tapeO raw pos] K:=by
 refine ofnPick rfl rfl ?_;(repeat' ((conv=>whnf);first|(with_reducible first|refine nNext raw _ _ (by simp only[aA];omega) zp hr fun m1 p1 hm1 hp1=>?_|refine hU (by simp only[aA]at*;omega) ?_|refine iA (by simp only[aA]at*;omega) fun d hd=>?_)|refine zG ?_|apply zA|intro h|exact zT));all_goals conv=>whnf
 all_goals first
  |exact hK _ _ (.inl rfl) zp
  |exact hK _ _ (.inr ⟨d,hd,rfl⟩) zp
theorem enNum(raw:List Int)(pos:Nat)(top:Int)(t0:0<=top)(t1:top<=4294967295)(hp:pos<=raw.length)(hr:raw.length<=9223372036854775807){K:KT}
  (hK:∀(a:Int) (pos':Nat),0<=a->a<=top->pos'<=raw.length->K (.v (.int .u32 a)) [tapeO raw pos']):AC 48 [.op 0 0,.v (.int .u32 top)] [tapeO raw pos] K:=by
 refine ofvNum rfl rfl ?_;(repeat' ((conv=>whnf);first|(with_reducible first|refine nNext raw _ _ zo zp hr fun m1 p1 hm1 hp1=>?_|refine hZ zo ?_|refine wr_u32_any fun r r0 r1=>?_)|refine zG ?_|apply zA|intro h|exact zT));all_goals conv=>whnf
 refine ix_all IsU32 ?_ (by simp only[aB,aH];omega) ?_
 ·simp only[gI];(repeat' apply And.intro)<;>first|exact⟨_,rfl,by assumption,by assumption⟩|exact⟨_,rfl,by decide,by decide⟩|(intro _ h;cases h)
 ·rintro _ ⟨y,rfl,y0,y1⟩
  (repeat' ((conv=>whnf);first|refine zG ?_|apply zA|intro h|exact zT));all_goals conv=>whnf
  all_goals exact hK _ _ zo zo zp
theorem enRange(raw:List Int)(pos:Nat)(top:Int)(t0:0<=top)(t1:top<=4294967295)(hp:pos<=raw.length)(hr:raw.length<=9223372036854775807){K:KT}
  (hK:∀(r:Rg) (pos':Nat),r.lo<=r.hi->r.hi<=top->pos'<=raw.length->K (encR r) [tapeO raw pos']):AC 69 [.op 0 0,.v (.int .u32 top)] [tapeO raw pos] K:=by
 refine ofnRange rfl rfl ?_;(repeat' ((conv=>whnf);first|(with_reducible refine enNum raw _ top t0 t1 zp hr fun a p2 a0 a1 hp2=>?_)|refine zG ?_|apply zA|intro h|exact zT));all_goals conv=>whnf
 all_goals exact hK ⟨_,_,by omega,by omega,by omega,by omega⟩ _ zs zs zp
theorem sub_okQ(n:Nat):(subL.getD n noPf).okP:=by
 have h:∀q,q∈subL->q.okP:=by decide+kernel
 rcases aF n subL.length with hn|hn
 ·rw[List.getD,aE hn];exact h _ (dC hn)
 ·rw[List.getD,bO hn];decide
theorem shr_wr{a c:Int}{K:Int->Prop}(c0:0<=c)(c1:c<32)(a0:0<=a)(a1:a<=4294967295)(hk:∀r:Int,0<=r->r<=4294967295->r%pz c=0->K r):
  Wr .u32 (a.fdiv (2^min (32-c).toNat IntKind.u32.bits)*2^min (32-c).toNat IntKind.u32.bits) K:=by
 have hb:IntKind.u32.bits=32:=rfl;have hp:=pz_pos c;have e:(2:Int)^min (32-c).toNat IntKind.u32.bits=pz c:=by
  rw[hb,fI zo,pz,Int.natCast_pow];rfl
 rw[e,Int.fdiv_eq_ediv_of_nonneg _ (Int.le_of_lt hp)];have h1:0<=a/pz c:=Int.ediv_nonneg a0 (Int.le_of_lt hp);have h2:a/pz c*pz c<=a:=Int.ediv_mul_le a zo;have h3:0<=a/pz c*pz c:=Int.mul_nonneg h1 (Int.le_of_lt hp);exact wr_u32 rfl h3 zo (hk _ h3 zo (Int.mul_emod_left _ _))
theorem enPref(raw:List Int)(pos:Nat)(hp:pos<=raw.length)(hr:raw.length<=9223372036854775807){K:KT}
  (hK:∀(q:Pf) (pos':Nat),q.okP->pos'<=raw.length->K (encP q) [tapeO raw pos']):AC 68 [.op 0 0] [tapeO raw pos] K:=by
 refine ofnPref rfl rfl ?_;(repeat' ((conv=>whnf);first|(with_reducible first|refine nNext raw _ _ zo zp hr fun m1 p1 hm1 hp1=>?_|refine hZ zo ?_|refine cnSub _ zo ?_|refine ix_intsB [32,31,24,25,8,1,0,16,30,23] 10 0 32 rfl rfl zd zo fun c c0 c1=>?_|refine cnAddr raw _ zp hr fun a p2 a0 a1 hp2=>?_|refine shr_wr zo zo a0 a1 fun r r0 r1 r2=>?_)|refine zG ?_|apply zA|intro h|exact zT));all_goals conv=>whnf
 all_goals first
  |exact hK _ _ (sub_okQ _) zp
  |exact hK ⟨r,c,r0,r1⟩ _ ⟨c0,c1,r2⟩ zp
  |(refine hK ⟨a,c,a0,a1⟩ _ ⟨c0,c1,?_⟩ zp
    have hc:c=32:=by omega
    show a%pz c=0;rw[hc];exact Int.emod_one a)
theorem opt_nil:optB ⟨#[]⟩=true:=by unfold optB;rw[sEq_data];rfl
theorem opt_nm{s:ByteArray}(h:nameB s=true):optB s=true:=by unfold optB;rw[h,Bool.or_true]
theorem nil_self:sEq ⟨#[]⟩ ⟨#[]⟩=true:=sEq_self _
theorem enPickO(raw:List Int)(pos:Nat)(l:List Df)(hn:∀d,d∈l->nameB d.name=true)(hl:l.length<=1000)(hp:pos<=raw.length)(hr:raw.length<=9223372036854775807){K:KT}
  (hK:∀(s:ByteArray) (pos':Nat),optB s=true->pos'<=raw.length->K (.v (.string s)) [tapeO raw pos']):AC 139 [.op 0 0,.lst (l.map encDf)] [tapeO raw pos] K:=
 enPick raw pos l hl hp hr fun s p h hp=>hK s p (by
  rcases h with rfl|⟨d,hd,rfl⟩
  ·exact opt_nil
  ·exact opt_nm (hn d hd)) hp
theorem sm_1{p e:Bool}{f t s a b:ByteArray}(h1:optB f=true)(h2:optB t=true)(h3:optB s=true)(h4:e=true/\optB a=true/\optB b=true\/(a=⟨#[]⟩/\b=⟨#[]⟩)):smB ⟨p,f,t,s,e,a,b,⟨#[]⟩,⟨#[]⟩,0⟩=true:=by
 have hz:=opt_nil;have hy:=nil_self;rcases h4 with⟨rfl,h5,h6⟩|⟨rfl,rfl⟩<;>simp_all[smB]
theorem sm_cls{x:Sm}{c:ByteArray}(h:smB x=true)(hp:x.permit=true)(hc:optB c=true):smB ⟨x.permit,x.frm,x.to,x.svc,x.exc,x.exF,x.exT,c,x.dur,x.pri⟩=true:=by
 simp only[smB,aJ,bS]at h⊢;simp_all
theorem sm_dur{x:Sm}{c:ByteArray}(h:smB x=true)(hc:optB c=true):smB ⟨x.permit,x.frm,x.to,x.svc,x.exc,x.exF,x.exT,x.cls,c,x.pri⟩=true:=by
 simp only[smB,aJ,bS]at h⊢;simp_all
theorem sm_pri{x:Sm}{c:Int}(h:smB x=true)(h0:0<=c)(h1:c<=1000):smB ⟨x.permit,x.frm,x.to,x.svc,x.exc,x.exF,x.exT,x.cls,x.dur,c⟩=true:=by
 simp only[smB,aJ,bS,aL]at h⊢;simp_all
theorem sm_exB{raw:List Int}{L:Sm×Nat->Prop}(a:Bool)(b c d:ByteArray)(e:Bool)(f g:ByteArray)(q:Nat)(hL:L (⟨a,b,c,d,e,f,g,⟨#[]⟩,⟨#[]⟩,0⟩,q))(hR:q<=raw.length)(hB:smB ⟨a,b,c,d,e,f,g,⟨#[]⟩,⟨#[]⟩,0⟩=true):∃g:Sm×Nat,(g.2<=raw.length/\smB g.1=true)/\L g:=⟨_,⟨hR,hB⟩,hL⟩
theorem enStm(raw:List Int)(pos:Nat)(t:Tp)(htd:t.devs.length<=100)(gs ss:List Df)(ws:List Wn)(sts:List Sm)(hg:gs.length<=1000)(hs:ss.length<=1000)(hw:ws.length<=1000)(hp:pos<=raw.length)(hr:raw.length<=9223372036854775807){K:KT}
  (hcl:∀d,d∈t.devs->optB d.cls=true)(hgn:∀d,d∈gs->nameB d.name=true)(hsn:∀d,d∈ss->nameB d.name=true)(hwn:∀d,d∈ws->nameB d.name=true)
  (hK:∀(s:Sm) (pos':Nat),smB s=true->pos'<=raw.length->K (encSm s) [tapeO raw pos',.arr 10 (sts.map encSm)]):
  AC 71 [.op 0 0,encT t,.agg [.lst (gs.map encDf),.lst (ss.map encDf),.lst (ws.map encWn),.os 1 10 0 sts.length,.nils,.nils]] [tapeO raw pos,.arr 10 (sts.map encSm)] K:=by
 refine ofnStm rfl rfl ?_;(repeat' ((conv=>whnf);first|(with_reducible first|refine nNext raw _ _ zo zp hr fun m1 p1 hm1 hp1=>?_|refine enPickO raw _ gs hgn hg zp hr fun s p2 hso hp2=>?_|refine enPickO raw _ ss hsn hs zp hr fun s p2 hso hp2=>?_)|refine zG ?_|apply zA|intro h|exact zT));all_goals conv=>whnf
 all_goals
  refine gV (Sm×Nat) (fun g=>⟨6,[(0,tapeO raw g.2),(1,.arr 10 (sts.map encSm)),(2,boxT t),(3,.box [.lst (gs.map encDf),.lst (ss.map encDf),.lst (ws.map encWn),.os 1 10 0 sts.length,.nils,.nils]),(4,smBox sm0),(5,smBox g.1)],[(0,.op 0 0),(4,.op 2 0),(5,.op 3 0),(6,.op 4 0),(7,.op 5 0)]⟩) (fun g=>g.2<=raw.length/\smB g.1=true) ?_ ?_
  ·(repeat' ((conv=>whnf);first|(with_reducible first|refine nNext raw _ _ zo zp hr fun m1 p1 hm1 hp1=>?_|refine enPickO raw _ gs hgn hg zp hr fun s p2 hso hp2=>?_|refine enPickO raw _ ss hsn hs zp hr fun s p2 hso hp2=>?_)|refine zG ?_|apply zA|intro h|exact zT));all_goals conv=>whnf
   all_goals
    apply sm_exB
    ·exact leA
    ·with_reducible assumption
    ·exact sm_1 zw zw zw (by first|exact .inr ⟨rfl,rfl⟩|exact .inl ⟨rfl,by with_reducible assumption,by with_reducible assumption⟩)
  rintro⟨x,q⟩ ⟨hq,hx⟩
  simp only at hq hx⊢;(repeat' ((conv=>whnf);first|refine zG ?_|apply zA|intro h|exact zT));all_goals conv=>whnf
  refine gV (Sm×Nat) (fun g=>⟨6,[(0,tapeO raw g.2),(1,.arr 10 (sts.map encSm)),(2,boxT t),(3,.box [.lst (gs.map encDf),.lst (ss.map encDf),.lst (ws.map encWn),.os 1 10 0 sts.length,.nils,.nils]),(4,smBox sm0),(5,smBox g.1)],[(0,.op 0 0),(4,.op 2 0),(5,.op 3 0),(6,.op 4 0),(7,.op 5 0)]⟩) (fun g=>g.2<=raw.length/\smB g.1=true) ?_ ?_
  ·(repeat' ((conv=>whnf);first|(with_reducible first|refine nNext raw _ _ (by(try simp only[aA]);omega) zw hr fun m1 p1 hm1 hp1=>?_|refine hU (by simp only[aA]at*;omega) ?_|refine iA (by simp only[aA]at*;omega) fun r hrm=>?_)|refine zG ?_|apply zA|intro h|exact zT));all_goals conv=>whnf
   all_goals first
    |(refine⟨(⟨x.permit,x.frm,x.to,x.svc,x.exc,x.exF,x.exT,r.cls,x.dur,x.pri⟩,p1),⟨zw,sm_cls hx zw (hcl r zw)⟩,?_⟩
      exact leA)
    |(refine⟨(x,p1),⟨zw,hx⟩,?_⟩
      exact leA)
    |(refine⟨(x,q),⟨zw,hx⟩,?_⟩
      exact leA)
  clear hq hx q x
  rintro⟨x,q⟩ ⟨hq,hx⟩
  simp only at hq hx⊢;(repeat' ((conv=>whnf);first|refine zG ?_|apply zA|intro h|exact zT));all_goals conv=>whnf
  refine gV (Sm×Nat) (fun g=>⟨6,[(0,tapeO raw g.2),(1,.arr 10 (sts.map encSm)),(2,boxT t),(3,.box [.lst (gs.map encDf),.lst (ss.map encDf),.lst (ws.map encWn),.os 1 10 0 sts.length,.nils,.nils]),(4,smBox sm0),(5,smBox g.1)],[(0,.op 0 0),(4,.op 2 0),(5,.op 3 0),(6,.op 4 0),(7,.op 5 0)]⟩) (fun g=>g.2<=raw.length/\smB g.1=true) ?_ ?_
  ·(repeat' ((conv=>whnf);first|(with_reducible first|refine nNext raw _ _ (by(try simp only[aA]);omega) zw hr fun m1 p1 hm1 hp1=>?_|refine hU (by simp only[aA]at*;omega) ?_|refine iA (by simp only[aA]at*;omega) fun r hrm=>?_)|refine zG ?_|apply zA|intro h|exact zT));all_goals conv=>whnf
   all_goals first
    |(refine⟨(⟨x.permit,x.frm,x.to,x.svc,x.exc,x.exF,x.exT,x.cls,r.name,x.pri⟩,p1),⟨zw,sm_dur hx (opt_nm (hwn r zw))⟩,?_⟩
      exact leA)
    |(refine⟨(x,p1),⟨zw,hx⟩,?_⟩
      exact leA)
    |(refine⟨(x,q),⟨zw,hx⟩,?_⟩
      exact leA)
  clear hq hx q x
  rintro⟨x,q⟩ ⟨hq,hx⟩
  simp only at hq hx⊢;(repeat' ((conv=>whnf);first|(with_reducible first|refine nNext raw _ _ zo zw hr fun m1 p1 hm1 hp1=>?_|refine hZ zo ?_|refine ix_ints [0,0,1,5,1000] 5 rfl rfl zo fun c hc=>?_)|refine zG ?_|apply zA|intro h|exact zT));all_goals conv=>whnf
  have hc2:0<=c/\c<=1000:=(show ∀c:Int,c∈[0,0,1,5,1000]->0<=c/\c<=1000 by decide) c hc;exact hK ⟨x.permit,x.frm,x.to,x.svc,x.exc,x.exF,x.exT,x.cls,x.dur,c⟩ _ (sm_pri hx hc2.1 hc2.2) zw
def gN:List ByteArray:=[⟨#[103,49]⟩,⟨#[103,50]⟩,⟨#[103,51]⟩]
def sN:List ByteArray:=[⟨#[119,101,98]⟩,⟨#[115,115,104]⟩,⟨#[100,110,115]⟩]
theorem ix_strX{xs:List AV}{i:Nat}{K:AV->Prop}(L:List ByteArray)(n:Nat)(h:xs=L.map fun c=>.v (.string c))(hn:L.length=n)(hi:i<n)(hk:∀c,L[i]? =some c->K (.v (.string c))):Ix xs i K:=by
 subst h;subst hn;exact hJ (aE hi) (hk _ (aE hi))
theorem nameB_lit{s:ByteArray}(h:nmChk s.data.toList=true):nameB s=true:=by
 exact nameB_true (nameOk_data h)
theorem gN_ok:∀s,s∈gN->nameB s=true:=fun s hs=>nameB_lit ((show ∀s,s∈gN->nmChk s.data.toList=true by decide+kernel) s hs)
theorem sN_ok:∀s,s∈sN->nameB s=true:=fun s hs=>nameB_lit ((show ∀s,s∈sN->nmChk s.data.toList=true by decide+kernel) s hs)
theorem gN_ne:∀(j i:Nat) (x y:ByteArray),j<i->gN[j]? =some x->gN[i]? =some y->sEq x y=false:=by
 have h:∀j i:Fin 3,j.val<i.val->sEqD (gN.getD j.val default) (gN.getD i.val default)=false:=by decide+kernel
 intro j i x y hji hx hy;have h1:=(aP.1 hx).1;have h2:=(aP.1 hy).1;have:=h ⟨j,h1⟩ ⟨i,h2⟩ hji;simp only[List.getD,hx,hy,cG]at this;rw[sEq_data];exact this
theorem sN_ne:∀(j i:Nat) (x y:ByteArray),j<i->sN[j]? =some x->sN[i]? =some y->sEq x y=false:=by
 have h:∀j i:Fin 3,j.val<i.val->sEqD (sN.getD j.val default) (sN.getD i.val default)=false:=by decide+kernel
 intro j i x y hji hx hy;have h1:=(aP.1 hx).1;have h2:=(aP.1 hy).1;have:=h ⟨j,h1⟩ ⟨i,h2⟩ hji;simp only[List.getD,hx,hy,cG]at this;rw[sEq_data];exact this
structure GDs (N:List ByteArray) (l:List Df) (g:Bool):Prop where
 nm:∀(i:Nat) d,l[i]? =some d->N[i]? =some d.name
 it:∀d,d∈l->1<=d.items.length/\d.items.length<=2
 ok:∀d,d∈l->∀y,y∈d.items->itB y g=true
theorem gds_nil{N:List ByteArray}{g:Bool}:GDs N [] g:=⟨fun i d h=>by simp at h,fun d h=>by simp at h,fun d h=>by simp at h⟩
theorem gds_snoc{N:List ByteArray}{l:List Df}{g:Bool}(h:GDs N l g){c:ByteArray}{its:List It}(hc:N[l.length]? =some c)(h1:1<=its.length/\its.length<=2)(h2:∀y,y∈its->itB y g=true):GDs N (l++[⟨c,its⟩]) g where
 nm:=fun i d hd=>by
  rcases aF i l.length with hlt|hge
  ·rw[bD hlt]at hd;exact h.nm i d hd
  ·rw[bG hge]at hd;have:=(aP.1 hd).1;simp only[aB,aH]at this;have e:i=l.length:=by omega
   subst e;simp only[dX,eO,bQ]at hd;subst hd;exact hc
 it:=fun d hd=>by
  rcases aX.1 hd with hd|hd
  ·exact h.it d hd
  ·rw[aV.1 hd];exact h1
 ok:=fun d hd=>by
  rcases aX.1 hd with hd|hd
  ·exact h.ok d hd
  ·rw[aV.1 hd];exact h2
theorem gds_names{N:List ByteArray}{l:List Df}{g:Bool}(h:GDs N l g)(hN:∀s,s∈N->nameB s=true):∀d,d∈l->nameB d.name=true:=fun d hd=>by
 obtain⟨i,hi⟩:=bN.1 hd;exact hN _ (aI (h.nm i d hi))
theorem gds_ok{N:List ByteArray}{l:List Df}{g:Bool}(h:GDs N l g)(hN:∀s,s∈N->nameB s=true)(hne:∀(j i:Nat) (x y:ByteArray),j<i->N[j]? =some x->N[i]? =some y->sEq x y=false)(hl:l.length<=32):DfsOk l g:=by
 refine⟨hl,fun i d hd=>⟨gds_names h hN d (aI hd),?_,(h.it d (aI hd)).1,aZ (h.it d (aI hd)).2 zd,h.ok d (aI hd)⟩⟩;unfold dfIx;exact firstIx_at (p:=fun x=>sEq x.name d.name) hd (sEq_self _) fun j y hj hy=>hne j i _ _ hj (h.nm j y hy) (h.nm i d hd)
theorem itB_zone{z:ByteArray}(h:nameB z=true):itB ⟨1,z,noPf,0,zR⟩ true=true:=by simp[itB,h,itN,noPf,zR]
theorem itB_sub{q:Pf}(h:q.okP):itB ⟨2,⟨#[]⟩,q,0,zR⟩ true=true:=by
 have:=nil_self;simp[itB,h,itP,zR,this]
theorem itB_name{z:ByteArray}{g:Bool}(h:nameB z=true):itB ⟨3,z,noPf,0,zR⟩ g=true:=by simp[itB,h,itN,noPf,zR]
theorem itB_svc{v:Int}{r:Rg}(h:prB v r=true):itB ⟨4,⟨#[]⟩,noPf,v,r⟩ false=true:=by
 have:=nil_self;simp[itB,h,itS,noPf,this]
theorem pb_exB{raw:List Int}{L:Nat×List Pb->Prop}(a b c:Int)(d:ByteArray)(e f:Int)(q:Nat)(hL:L (q,[⟨a,b,c,d,e,f⟩]))(hR:q<=raw.length)(hB:pbB ⟨a,b,c,d,e,f⟩=true):∃g:Nat×List Pb,(g.1<=raw.length/\g.2.length<=1/\∀x,x∈g.2->pbB x=true)/\L g:=⟨_,⟨hR,by simp,fun x hx=>by rw[aV.1 hx];exact hB⟩,hL⟩
structure TpN (t:Tp):Prop where
 cls:∀d,d∈t.devs->optB d.cls=true
 zone:∀e,e∈t.edges->nameB e.zone=true
 edge:∀e,e∈t.edges->nameB e.name=true
structure ENt (i:Nt):Prop where
 gen:GNt i
 ok:NtOk i
 g:GDs gN i.grps true
 s:GDs sN i.svcs false
 g1:1<=i.grps.length
 w1:i.wins.length<=1
 t3:i.sts.length<=4
 p1:i.pubs.length<=1
 h1:i.hids.length<=1
theorem enInt(raw:List Int)(pos:Nat)(t:Tp)(hte:t.edges.length<=5)(htd:t.devs.length<=100)(htn:TpN t)(ns:Nat)(hns:ns<=4)(hp:pos<=raw.length)(hr:raw.length<=9223372036854775807){K:KT}
  (hK:∀(i:Nt) (pos':Nat),ENt i->pos'<=raw.length->K (encNt i) [tapeO raw pos']):
  AC 25 [.op 0 0,encT t,.v (.int .i64 ns)] [tapeO raw pos] K:=by
 refine ofnInt rfl rfl ?_;(repeat' ((conv=>whnf);first|(with_reducible refine nNext raw _ _ zo zp hr fun m1 p1 hm1 hp1=>?_)|refine zG ?_|apply zA|intro h|exact zT));all_goals conv=>whnf
 refine gL (Nat×Nat×List Df) (fun g=>⟨7,[(0,tapeO raw g.1),(1,boxT t),(2,nilNt),(3,.box [.os 4 2 0 g.2.2.length,.os 5 2 0 0,.os 6 2 0 0,.nils,.nils,.nils]),(4,.arr 2 (g.2.2.map encDf)),(5,.arr 2 []),(6,.arr 2 [])],[(0,.op 0 0),(2,.v (.int .i64 ns)),(4,.op 1 0),(6,.op 2 0),(7,.op 3 0),(8,.v (.int .i64 g.2.1))]⟩)
  (fun g=>g.1<=raw.length/\(g.2.1+g.2.2.length<=3/\1<=g.2.1+g.2.2.length)/\GDs gN g.2.2 true) (fun g=>g.2.1) (p1,m1+1,[]) ⟨hp1,by simp only[aH];omega,gds_nil⟩ ?_ ?_
 ·rw[show(((p1,m1+1,[]):Nat×Nat×List Df).2.1:Int)=1+(m1:Int)from by simp only;omega];exact leA
 rintro⟨p,k,gs⟩ ⟨h1,⟨h2,h2b⟩,h3⟩
 simp only at h1 h2 h2b h3⊢;have hgnm:=gds_names h3 gN_ok;rcases aF 0 k with hk|hk
 ·obtain⟨k',rfl⟩:∃k',k=k'+1:=⟨k-1,by omega⟩
  have hk1:((k'+1:Nat):Int)-1=(k':Int):=by omega
  (repeat' ((conv=>whnf);first|(with_reducible first|refine nNext raw _ _ zo zp hr fun m1 p1 hm1 hp1=>?_|refine wr_i64 hk1 zo zo ?_|refine hZ zo ?_|refine ix_strX gN 3 rfl rfl zo fun c hc=>?_)|refine zG ?_|apply zA|intro h|exact zT));all_goals conv=>whnf
  refine gL (Nat×Nat×List It) (fun g=>⟨9,[(0,tapeO raw g.1),(1,boxT t),(2,nilNt),(3,.box [.os 4 2 0 gs.length,.os 5 2 0 0,.os 6 2 0 0,.nils,.nils,.nils]),(4,.arr 2 (gs.map encDf)),(5,.arr 2 []),(6,.arr 2 []),(7,.box [.v (.string c),.os 8 7 0 g.2.2.length]),(8,.arr 7 (g.2.2.map encIt))],[(0,.op 0 0),(2,.v (.int .i64 ns)),(4,.op 1 0),(6,.op 2 0),(7,.op 3 0),(8,.v (.int .i64 ((k'+1:Nat):Int))),(9,.op 7 0),(10,.v (.int .i64 g.2.1))]⟩)
   (fun g=>g.1<=raw.length/\(g.2.1+g.2.2.length<=2/\1<=g.2.1+g.2.2.length)/\∀y,y∈g.2.2->itB y true=true) (fun g=>g.2.1) (p1,m1+1,[]) ⟨by with_reducible assumption,by simp only[aH];omega,fun y h=>by simp at h⟩ ?_ ?_
  ·rw[show(((p1,m1+1,[]):Nat×Nat×List It).2.1:Int)=1+(m1:Int)from by simp only;omega];exact leA
  clear h1 p hm1 hp1 m1 p1
  rintro⟨p,m,its⟩ ⟨h1,⟨h4,h4b⟩,h9⟩
  simp only at h1 h4 h4b h9⊢;rcases aF 0 m with hm|hm
  ·obtain⟨m',rfl⟩:∃m',m=m'+1:=⟨m-1,by omega⟩
   have hm1:((m'+1:Nat):Int)-1=(m':Int):=by omega
   (repeat' ((conv=>whnf);first|(with_reducible refine enPref raw _ zw hr fun q p2 hqo hp2=>?_)|refine zG ?_|apply zA|intro h|exact zT));all_goals conv=>whnf
   all_goals
    refine gV (It×Nat) (fun g=>⟨10,[(0,tapeO raw g.2),(1,boxT t),(2,nilNt),(3,.box [.os 4 2 0 gs.length,.os 5 2 0 0,.os 6 2 0 0,.nils,.nils,.nils]),(4,.arr 2 (gs.map encDf)),(5,.arr 2 []),(6,.arr 2 []),(7,.box [.v (.string c),.os 8 7 0 its.length]),(8,.arr 7 (its.map encIt)),(9,itBox g.1)],[(0,.op 0 0),(2,.v (.int .i64 ns)),(4,.op 1 0),(6,.op 2 0),(7,.op 3 0),(8,.v (.int .i64 ((k'+1:Nat):Int))),(9,.op 7 0),(10,.v (.int .i64 ((m'+1:Nat):Int))),(11,.op 9 0)]⟩) (fun g=>g.2<=raw.length/\itB g.1 true=true) ?_ ?_
    ·(repeat' ((conv=>whnf);first|(with_reducible first|refine nNext raw _ _ (by(try simp only[aA]);omega) zw hr fun m1 p1 hm1 hp1=>?_|refine hU (by(try simp only[aA]at*);omega) ?_|refine iA (f:=encE) (by(try simp only[aA]at*);omega) fun e he=>?_)|refine zG ?_|apply zA|intro h|exact zT));all_goals conv=>whnf
     all_goals first
      |(refine⟨(⟨1,e.zone,noPf,0,zR⟩,p1),⟨zw,itB_zone (htn.zone e zw)⟩,?_⟩
        exact leA)
      |(refine⟨(⟨2,⟨#[]⟩,q,0,zR⟩,p1),⟨zw,itB_sub hqo⟩,?_⟩
        exact leA)
    rintro⟨y0,p4⟩ ⟨hp4,hy0⟩
    simp only at hp4 hy0⊢;(repeat' ((conv=>whnf);first|refine zG ?_|apply zA|intro h|exact zT));all_goals conv=>whnf
    all_goals
     refine gV (It×Nat) (fun g=>⟨10,[(0,tapeO raw g.2),(1,boxT t),(2,nilNt),(3,.box [.os 4 2 0 gs.length,.os 5 2 0 0,.os 6 2 0 0,.nils,.nils,.nils]),(4,.arr 2 (gs.map encDf)),(5,.arr 2 []),(6,.arr 2 []),(7,.box [.v (.string c),.os 8 7 0 its.length]),(8,.arr 7 (its.map encIt)),(9,itBox g.1)],[(0,.op 0 0),(2,.v (.int .i64 ns)),(4,.op 1 0),(6,.op 2 0),(7,.op 3 0),(8,.v (.int .i64 ((k'+1:Nat):Int))),(9,.op 7 0),(10,.v (.int .i64 ((m'+1:Nat):Int))),(11,.op 9 0)]⟩) (fun g=>g.2<=raw.length/\itB g.1 true=true) ?_ ?_
     ·(repeat' ((conv=>whnf);first|(with_reducible first|refine nNext raw _ _ (by(try simp only[aA]);omega) zw hr fun m1 p1 hm1 hp1=>?_|refine gT 0 rfl (by(try simp only[aA]at*);omega) ?_|refine iA (f:=encDf) (by(try simp only[aA]at*);omega) fun d hd=>?_)|refine zG ?_|apply zA|intro h|exact zT));all_goals conv=>whnf
      all_goals first
       |(refine⟨(⟨3,d.name,noPf,0,zR⟩,p1),⟨zw,itB_name (hgnm d zw)⟩,?_⟩
         exact leA)
       |(refine⟨(y0,p1),⟨zw,hy0⟩,?_⟩
         exact leA)
       |(refine⟨(y0,p4),⟨zw,hy0⟩,?_⟩
         exact leA)
     rintro⟨y,p3⟩ ⟨hp3,hyv⟩
     simp only at hp3 hyv⊢;(repeat' ((conv=>whnf);first|(with_reducible refine wr_i64 hm1 zo zo ?_)|refine zG ?_|apply zA|intro h|exact zT));all_goals conv=>whnf
     refine⟨(p3,m',its++[y]),⟨hp3,by simp only[aC,aB,aH];omega,fun z hz=>by
      rcases aX.1 hz with hz|hz
      ·exact h9 z hz
      ·rw[aV.1 hz];exact hyv⟩,by simp only;omega,?_⟩
     simp only[aQ,aC,aR,bL,aB,aH];exact leA
  ·obtain rfl:m=0:=by omega
   (repeat' ((conv=>whnf);first|(with_reducible refine wr_i64 hk1 zo zo ?_)|refine zG ?_|apply zA|intro h|exact zT));all_goals conv=>whnf
   refine⟨(p,k',gs++[⟨c,its⟩]),⟨h1,by simp only[aC,aB,aH];omega,gds_snoc h3 (by rw[<-hc,bK]) zo h9⟩,by simp only;omega,?_⟩;simp only[aQ,aC,aR,bL,aB,aH];exact leA
 obtain rfl:k=0:=by omega
 clear hk;(repeat' ((conv=>whnf);first|(with_reducible refine nNext raw _ _ zo zw hr fun m1 p1 hm1 hp1=>?_)|refine zG ?_|apply zA|intro h|exact zT));all_goals conv=>whnf
 refine gL (Nat×Nat×List Df) (fun g=>⟨7,[(0,tapeO raw g.1),(1,boxT t),(2,nilNt),(3,.box [.os 4 2 0 gs.length,.os 5 2 0 g.2.2.length,.os 6 2 0 0,.nils,.nils,.nils]),(4,.arr 2 (gs.map encDf)),(5,.arr 2 (g.2.2.map encDf)),(6,.arr 2 [])],[(0,.op 0 0),(2,.v (.int .i64 ns)),(4,.op 1 0),(6,.op 2 0),(7,.op 3 0),(13,.v (.int .i64 g.2.1))]⟩)
  (fun g=>g.1<=raw.length/\g.2.1+g.2.2.length<=2/\GDs sN g.2.2 false/\∀d,d∈g.2.2->∀y,y∈d.items->SvcIt y) (fun g=>g.2.1) (p1,m1,[]) ⟨by with_reducible assumption,by simp only[aH];omega,gds_nil,fun d h=>by simp at h⟩ ?_ ?_
 ·exact leA
 clear h1 p hm1 hp1 m1 p1
 rintro⟨p,k,ss⟩ ⟨h1,h4,h5,h6⟩
 simp only at h1 h4 h5 h6⊢;have hsnm:=gds_names h5 sN_ok;rcases aF 0 k with hk|hk
 ·obtain⟨k',rfl⟩:∃k',k=k'+1:=⟨k-1,by omega⟩
  have hk1:((k'+1:Nat):Int)-1=(k':Int):=by omega
  (repeat' ((conv=>whnf);first|(with_reducible first|refine nNext raw _ _ (by(try simp only[aA]);omega) zw hr fun m1 p1 hm1 hp1=>?_|refine wr_i64 hk1 zo zo ?_|refine hZ zo ?_|refine ix_strX sN 3 rfl rfl zo fun c hc=>?_)|refine zG ?_|apply zA|intro h|exact zT));all_goals conv=>whnf
  refine gL (Nat×Nat×List It) (fun g=>⟨9,[(0,tapeO raw g.1),(1,boxT t),(2,nilNt),(3,.box [.os 4 2 0 gs.length,.os 5 2 0 ss.length,.os 6 2 0 0,.nils,.nils,.nils]),(4,.arr 2 (gs.map encDf)),(5,.arr 2 (ss.map encDf)),(6,.arr 2 []),(7,.box [.v (.string c),.os 8 7 0 g.2.2.length]),(8,.arr 7 (g.2.2.map encIt))],[(0,.op 0 0),(2,.v (.int .i64 ns)),(4,.op 1 0),(6,.op 2 0),(7,.op 3 0),(13,.v (.int .i64 ((k'+1:Nat):Int))),(14,.op 7 0),(15,.v (.int .i64 g.2.1))]⟩)
   (fun g=>g.1<=raw.length/\(g.2.1+g.2.2.length<=2/\1<=g.2.1+g.2.2.length)/\∀y,y∈g.2.2->SvcIt y/\itB y false=true) (fun g=>g.2.1) (p1,m1+1,[]) ⟨by with_reducible assumption,by simp only[aH];omega,fun y h=>by simp at h⟩ ?_ ?_
  ·rw[show(((p1,m1+1,[]):Nat×Nat×List It).2.1:Int)=1+(m1:Int)from by simp only;omega];exact leA
  clear h1 p hm1 hp1 m1 p1
  rintro⟨p,m,its⟩ ⟨h1,⟨h7,h7b⟩,h8⟩
  simp only at h1 h7 h7b h8⊢;rcases aF 0 m with hm|hm
  ·obtain⟨m',rfl⟩:∃m',m=m'+1:=⟨m-1,by omega⟩
   have hmm:((m'+1:Nat):Int)-1=(m':Int):=by omega
   (repeat' ((conv=>whnf);first|(with_reducible first|refine nNext raw _ _ (by(try simp only[aA]);omega) zw hr fun m1 p1 hm1 hp1=>?_|refine hZ zo ?_|refine ix_ints [6,17,6,1,50] 5 rfl rfl zo fun v hv=>?_)|refine zG ?_|apply zA|intro h|exact zT));all_goals conv=>whnf
   simp only[aU,dM,or_false]at hv;refine gV (It×Nat) (fun g=>⟨10,[(0,tapeO raw g.2),(1,boxT t),(2,nilNt),(3,.box [.os 4 2 0 gs.length,.os 5 2 0 ss.length,.os 6 2 0 0,.nils,.nils,.nils]),(4,.arr 2 (gs.map encDf)),(5,.arr 2 (ss.map encDf)),(6,.arr 2 []),(7,.box [.v (.string c),.os 8 7 0 its.length]),(8,.arr 7 (its.map encIt)),(9,itBox g.1)],[(0,.op 0 0),(2,.v (.int .i64 ns)),(4,.op 1 0),(6,.op 2 0),(7,.op 3 0),(13,.v (.int .i64 ((k'+1:Nat):Int))),(14,.op 7 0),(15,.v (.int .i64 ((m'+1:Nat):Int))),(16,.op 9 0)]⟩) (fun g=>g.2<=raw.length/\SvcIt g.1/\itB g.1 false=true) ?_ ?_
   ·(repeat' ((conv=>whnf);first|(with_reducible refine enRange raw _ 65535 zd zd zw hr fun r p2 hlo hhi hp2=>?_)|refine zG ?_|apply zA|intro h|exact zT));all_goals conv=>whnf
    all_goals first
     |(refine⟨(⟨4,⟨#[]⟩,noPf,v,⟨8,8,by decide,by decide,by decide,by decide⟩⟩,p1),⟨by with_reducible assumption,.inr (.inr (.inl ⟨by simp only;omega,rfl,rfl⟩)),itB_svc (by rw[show v=1 by omega];rfl)⟩,?_⟩
       exact leA)
     |(refine⟨(⟨4,⟨#[]⟩,noPf,v,r⟩,p2),⟨by with_reducible assumption,.inr (.inl zs),itB_svc (by rw[prB,aG zo];exact decide_eq_true ⟨hlo,hhi⟩)⟩,?_⟩
       exact leA)
     |(refine⟨(⟨4,⟨#[]⟩,noPf,v,zR⟩,p1),⟨by with_reducible assumption,.inr (.inr (.inr ⟨by simp only;omega,rfl,rfl⟩)),itB_svc (by rw[show v=50 by omega];rfl)⟩,?_⟩
       exact leA)
   rintro⟨y0,p4⟩ ⟨hp4,hy0⟩
   simp only at hp4 hy0⊢;(repeat' ((conv=>whnf);first|refine zG ?_|apply zA|intro h|exact zT));all_goals conv=>whnf
   refine gV (It×Nat) (fun g=>⟨10,[(0,tapeO raw g.2),(1,boxT t),(2,nilNt),(3,.box [.os 4 2 0 gs.length,.os 5 2 0 ss.length,.os 6 2 0 0,.nils,.nils,.nils]),(4,.arr 2 (gs.map encDf)),(5,.arr 2 (ss.map encDf)),(6,.arr 2 []),(7,.box [.v (.string c),.os 8 7 0 its.length]),(8,.arr 7 (its.map encIt)),(9,itBox g.1)],[(0,.op 0 0),(2,.v (.int .i64 ns)),(4,.op 1 0),(6,.op 2 0),(7,.op 3 0),(13,.v (.int .i64 ((k'+1:Nat):Int))),(14,.op 7 0),(15,.v (.int .i64 ((m'+1:Nat):Int))),(16,.op 9 0)]⟩) (fun g=>g.2<=raw.length/\SvcIt g.1/\itB g.1 false=true) ?_ ?_
   ·(repeat' ((conv=>whnf);first|(with_reducible first|refine nNext raw _ _ (by(try simp only[aA]);omega) zw hr fun m1 p1 hm1 hp1=>?_|refine gT 0 rfl (by(try simp only[aA]at*);omega) ?_|refine iA (f:=encDf) (by(try simp only[aA]at*);omega) fun d hd=>?_)|refine zG ?_|apply zA|intro h|exact zT));all_goals conv=>whnf
    all_goals first
     |(refine⟨(⟨3,d.name,noPf,0,zR⟩,p1),⟨by with_reducible assumption,.inl ⟨rfl,rfl,rfl,rfl⟩,itB_name (hsnm d zw)⟩,?_⟩
       exact leA)
     |(refine⟨(y0,p1),⟨by with_reducible assumption,hy0⟩,?_⟩
       exact leA)
     |(refine⟨(y0,p4),⟨by with_reducible assumption,hy0⟩,?_⟩
       exact leA)
   rintro⟨y,p3⟩ ⟨hp3,hyv⟩
   simp only at hp3 hyv⊢;(repeat' ((conv=>whnf);first|(with_reducible refine wr_i64 hmm zo zo ?_)|refine zG ?_|apply zA|intro h|exact zT));all_goals conv=>whnf
   refine⟨(p3,m',its++[y]),⟨hp3,by simp only[aC,aB,aH];omega,fun z hz=>by
    rcases aX.1 hz with hz|hz
    ·exact h8 z hz
    ·rw[aV.1 hz];exact hyv⟩,by simp only;omega,?_⟩
   simp only[aQ,aC,aR,bL,aB,aH];exact leA
  ·obtain rfl:m=0:=by omega
   (repeat' ((conv=>whnf);first|(with_reducible refine wr_i64 hk1 zo zo ?_)|refine zG ?_|apply zA|intro h|exact zT));all_goals conv=>whnf
   refine⟨(p,k',ss++[⟨c,its⟩]),⟨h1,by simp only[aC,aB,aH];omega,gds_snoc h5 (by rw[<-hc,bK]) zo (fun y hy=>(h8 y hy).2),fun d hd=>by
    rcases aX.1 hd with hd|hd
    ·exact h6 d hd
    ·rw[aV.1 hd];exact fun y hy=>(h8 y hy).1⟩,by simp only;omega,?_⟩
   simp only[aQ,aC,aR,bL,aB,aH];exact leA
 obtain rfl:k=0:=by omega
 clear hk;(repeat' ((conv=>whnf);first|refine zG ?_|apply zA|intro h|exact zT));all_goals conv=>whnf
 refine gV (Nat×List Wn) (fun g=>⟨7,[(0,tapeO raw g.1),(1,boxT t),(2,nilNt),(3,.box [.os 4 2 0 gs.length,.os 5 2 0 ss.length,.os 6 2 0 g.2.length,.nils,.nils,.nils]),(4,.arr 2 (gs.map encDf)),(5,.arr 2 (ss.map encDf)),(6,.arr 2 (g.2.map encWn))],[(0,.op 0 0),(2,.v (.int .i64 ns)),(4,.op 1 0),(6,.op 2 0),(7,.op 3 0)]⟩)
  (fun g=>g.1<=raw.length/\g.2.length<=1/\∀w,w∈g.2->w.name=⟨#[119,111,114,107]⟩/\WinOk w.act/\w.act.length<=16) ?_ ?_
 ·(repeat' ((conv=>whnf);first|(with_reducible first|refine nNext raw _ _ (by(try simp only[aA]);omega) zw hr fun m1 p1 hm1 hp1=>?_|refine enWin raw _ zw hr fun rs p2 hrs hrl hp2=>?_)|refine zG ?_|apply zA|intro h|exact zT));all_goals conv=>whnf
  all_goals first
   |(refine⟨(p2,[⟨⟨#[119,111,114,107]⟩,rs⟩]),⟨by with_reducible assumption,by simp,fun w hw=>by rw[aV.1 hw];exact⟨rfl,hrs,hrl⟩⟩,?_⟩
     exact leA)
   |(refine⟨(p1,[]),⟨by with_reducible assumption,by simp,fun w hw=>by simp at hw⟩,?_⟩
     exact leA)
 rintro⟨p5,ws⟩ ⟨hp5,hw1,hw2⟩
 simp only at hp5 hw1 hw2⊢;have hwnm:∀w,w∈ws->nameB w.name=true:=fun w hw=>by rw[(hw2 w hw).1];exact nameB_lit (by decide+kernel)
 (repeat' ((conv=>whnf);first|(with_reducible first|refine sl_full (aA ..) ?_|refine nNext raw _ _ (by(try simp only[aA]);omega) zw hr fun m1 p1 hm1 hp1=>?_)|refine zG ?_|apply zA|intro h|exact zT));all_goals conv=>whnf
 refine gL (Nat×Nat×List Sm) (fun g=>⟨5,[(0,tapeO raw g.1),(1,boxT t),(2,nilNt),(3,.box [.lst (gs.map encDf),.lst (ss.map encDf),.lst (ws.map encWn),.os 4 10 0 g.2.2.length,.nils,.nils]),(4,.arr 10 (g.2.2.map encSm))],[(0,.op 0 0),(4,.op 1 0),(6,.op 2 0),(7,.op 3 0),(17,.v (.int .i64 g.2.1))]⟩)
  (fun g=>g.1<=raw.length/\g.2.1+g.2.2.length<=4/\∀x,x∈g.2.2->smB x=true) (fun g=>g.2.1) (p1,m1,[]) ⟨by with_reducible assumption,by simp only[aH];omega,fun x h=>by simp at h⟩ ?_ ?_
 ·exact leA
 clear h1 p hm1 hp1 m1 p1
 rintro⟨p,k,sts⟩ ⟨h1,h7,hst⟩
 simp only at h1 h7 hst⊢;rcases aF 0 k with hk|hk
 ·obtain⟨k',rfl⟩:∃k',k=k'+1:=⟨k-1,by omega⟩
  have hkk:((k'+1:Nat):Int)-1=(k':Int):=by omega
  (repeat' ((conv=>whnf);first|(with_reducible first|refine wr_i64 hkk zo zo ?_|refine enStm raw _ t htd gs ss ws sts zo zo zo zw hr htn.cls hgnm hsnm hwnm fun x p2 hxo hp2=>?_)|refine zG ?_|apply zA|intro h|exact zT));all_goals conv=>whnf
  all_goals
   refine⟨(p2,k',sts++[x]),⟨by with_reducible assumption,by simp only[aC,aB,aH];omega,fun z hz=>by
    rcases aX.1 hz with hz|hz
    ·exact hst z hz
    ·rw[aV.1 hz];exact hxo⟩,by simp only;omega,?_⟩
   simp only[aQ,aC,aR,bL,aB,aH];exact leA
 obtain rfl:k=0:=by omega
 clear hk;(repeat' ((conv=>whnf);first|refine zG ?_|apply zA|intro h|exact zT));all_goals conv=>whnf
 refine gV (Nat×List Pb) (fun g=>⟨7,[(0,tapeO raw g.1),(1,boxT t),(2,nilNt),(3,.box [.lst (gs.map encDf),.lst (ss.map encDf),.lst (ws.map encWn),.os 4 10 0 sts.length,.os 5 6 0 g.2.length,.os 6 5 0 0]),(4,.arr 10 (sts.map encSm)),(5,.arr 6 (g.2.map encPb)),(6,.arr 5 [])],[(0,.op 0 0),(4,.op 1 0),(6,.op 2 0),(7,.op 3 0)]⟩) (fun g=>g.1<=raw.length/\g.2.length<=1/\∀x,x∈g.2->pbB x=true) ?_ ?_
 ·(repeat' ((conv=>whnf);first|(with_reducible first|refine nNext raw _ _ (by(try simp only[aA]);omega) zw hr fun m1 p1 hm1 hp1=>?_|refine gT 1 rfl (by(try simp only[aA]at*);omega) ?_|refine gT 0 rfl (by(try simp only[aA]at*);omega) ?_|refine iA (f:=encE) (by(try simp only[aA]at*);omega) fun e he=>?_|refine crOf _ ?_|refine hZ zo ?_|refine ix_ints [6,17] 2 rfl rfl zo fun v hv=>?_|refine enNum raw _ 65535 zd zd zw hr fun a p2 a0 a1 hp2=>?_)|refine zG ?_|apply zA|intro h|exact zT));all_goals conv=>whnf
  all_goals first
   |(refine⟨(p1,[]),⟨by with_reducible assumption,by simp,fun x h=>by simp at h⟩,?_⟩
     exact leA)
   |(refine⟨(p,[]),⟨by with_reducible assumption,by simp,fun x h=>by simp at h⟩,?_⟩
     exact leA)
   |(apply pb_exB
     ·exact leA
     ·with_reducible assumption
     ·have hnm:=htn.edge _ zw;simp only[aU,dM,or_false]at hv;simp only[pbB,ptB,hnm,eW,aJ,bS,aL];omega)
 rintro⟨p6,pbs⟩ ⟨hp6,hb1,hb2⟩
 simp only at hp6 hb1 hb2⊢;(repeat' ((conv=>whnf);first|refine zG ?_|apply zA|intro h|exact zT));all_goals conv=>whnf
 refine gV (Nat×List Hn) (fun g=>⟨7,[(0,tapeO raw g.1),(1,boxT t),(2,nilNt),(3,.box [.lst (gs.map encDf),.lst (ss.map encDf),.lst (ws.map encWn),.os 4 10 0 sts.length,.os 5 6 0 pbs.length,.os 6 5 0 g.2.length]),(4,.arr 10 (sts.map encSm)),(5,.arr 6 (pbs.map encPb)),(6,.arr 5 (g.2.map encHn))],[(0,.op 0 0),(4,.op 1 0),(6,.op 2 0),(7,.op 3 0)]⟩) (fun g=>g.1<=raw.length/\g.2.length<=1/\∀x,x∈g.2->hnB x=true) ?_ ?_
 ·(repeat' ((conv=>whnf);first|(with_reducible first|refine nNext raw _ _ (by(try simp only[aA]);omega) zw hr fun m1 p1 hm1 hp1=>?_|refine hU (by(try simp only[aA]at*);omega) ?_|refine iA (f:=encE) (by(try simp only[aA]at*);omega) fun e he=>?_)|refine zG ?_|apply zA|intro h|exact zT));all_goals conv=>whnf
  all_goals first
   |(refine⟨(p1,[⟨⟨#[103,49]⟩,e.name,3325256705,⟨1024,1024+(m1:Int),by decide,by decide,by omega,by omega⟩⟩]),⟨by with_reducible assumption,by simp,fun x h=>by
      rw[aV.1 h];have hnm:=htn.edge e zw;have hg1:nameB ⟨#[103,49]⟩=true:=nameB_lit (by decide+kernel);simp only[hnB,hnm,hg1,eG,aL];omega⟩,?_⟩
     exact leA)
   |(refine⟨(p1,[]),⟨by with_reducible assumption,by simp,fun x h=>by simp at h⟩,?_⟩
     exact leA)
   |(refine⟨(p6,[]),⟨by with_reducible assumption,by simp,fun x h=>by simp at h⟩,?_⟩
     exact leA)
 rintro⟨p7,hds⟩ ⟨hp7,hh1,hh2⟩
 simp only at hp7 hh1 hh2⊢;(repeat' ((conv=>whnf);first|(with_reducible refine sl_full (aA ..) ?_)|refine zG ?_|apply zA|intro h|exact zT));all_goals conv=>whnf
 refine hK ⟨gs,ss,ws,sts,pbs,hds⟩ p7 ⟨⟨⟨⟨by simp only;omega,by simp only;omega,by simp only;omega,by simp only;omega,by simp only;omega,by simp only;omega,fun d hd=>aZ (h3.it d hd).2 zd,fun d hd=>aZ (h5.it d hd).2 zd,fun w hw=>?_⟩,by simp only;omega,by simp only;omega,fun d hd=>(h3.it d hd).2,fun d hd=>(h5.it d hd).2⟩,by simp only;omega,h6⟩,
  ⟨gds_ok h3 gN_ok gN_ne zs,gds_ok h5 sN_ok sN_ne zs,by simp only;omega,by simp only;omega,by simp only;omega,by simp only;omega,fun i x hx=>?_,hst,hb2,hh2⟩,h3,h5,by simp only;omega,by simp only;omega,by simp only;omega,by simp only;omega,by simp only;omega⟩ hp7
 ·exact aZ (hw2 w hw).2.2 zd
 ·have hi:=(aP.1 hx).1;obtain rfl:i=0:=by simp only at hi;omega
  refine⟨hwnm x (aI hx),?_,(hw2 x (aI hx)).2.1⟩;unfold wnIx;exact firstIx_at (p:=fun y=>sEq y.name x.name) hx (sEq_self _) fun j y hj _=>absurd hj (bC _)
theorem tpn_top{t:Tp}(h:GTop t):TpN t where
 cls:=fun d hd=>by
  obtain⟨i,hi⟩:=bN.1 hd;have hc:=(h.dv i d hi).cls;have hl:∀s,s∈clL->sEqD s ⟨#[]⟩=true\/nmChk s.data.toList=true:=by decide+kernel
  unfold optB;rw[bS];rcases hl _ hc with h1|h1
  ·exact .inl (by rw[sEq_data];exact h1)
  ·exact .inr (nameB_lit h1)
 zone:=fun e he=>by
  obtain⟨i,hi⟩:=bN.1 he;have hz:=(h.ed i e hi).zone;exact nameB_lit ((show ∀s,s∈zoL->nmChk s.data.toList=true by decide+kernel) _ hz)
 edge:=fun e he=>by
  obtain⟨i,hi⟩:=bN.1 he;have hl:=(aP.1 hi).1;have h5:=h.e5;rw[(h.ed i e hi).name];exact nameB_lit ((show ∀j:Fin 5,nmChk (enL.getD j.val default).data.toList=true by decide+kernel) ⟨i,by omega⟩)
theorem sum_two(l:List Df)(h:∀d,d∈l->d.items.length<=2):itsN l<=2*l.length:=by
 unfold itsN
 induction l with
 |nil=>simp
 |cons d l ih=>
  have:=ih fun x hx=>h x (aS _ hx);have:=h d zx;simp only[aR,dB,aB];omega
end Go.Proofs.YtnomkooikbhgmaaGreatDoor
