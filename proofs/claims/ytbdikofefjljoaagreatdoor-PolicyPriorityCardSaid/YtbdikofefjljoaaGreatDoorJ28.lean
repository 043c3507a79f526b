/- The generator's windows are windows that can be written: Parts, day, span, Parse of the reference, as far as that goes. -/
import Derived.Test.YtbdikofefjljoaaGreatDoorJ27
set_option linter.unusedVariables false
set_option linter.unusedSimpArgs false
set_option maxRecDepth 100000
set_option maxHeartbeats 4000000
namespace Go.Proofs.YtbdikofefjljoaaGreatDoor
open Go Go.Vm
def atB(s:ByteArray)(c:Int)(i:Nat):Bool:=match s[i]? with
 |some b=>decide ((b.toNat:Int)=c)
 |none=>true
def prt(s:ByteArray)(c:Int):Nat->List ByteArray×Nat
 |0=>([],0)
 |i+1=>if atB s c i=true then((prt s c i).1++[s.extract (prt s c i).2 i],i+1)else prt s c i
theorem prt_le(s:ByteArray)(c:Int):∀i,(prt s c i).2<=i/\(prt s c i).1.length<=i
 |0=>⟨aJ _,aJ _⟩
 |i+1=>by
  have:=prt_le s c i
  rw[prt]
  split
  ·simp only[aC,aK,aP];omega
  ·omega
theorem at_end(s:ByteArray)(c:Int):atB s c s.size=true:=by rw[atB,getElem?_neg s s.size (Nat.lt_irrefl _)]
theorem prt_end(s:ByteArray)(c:Int):(prt s c (s.size+1)).1=(prt s c s.size).1++[s.extract (prt s c s.size).2 s.size]:=by
 rw[prt,aH (at_end s c)]
def prtL(s:ByteArray)(c:Int):List ByteArray:=(prt s c (s.size+1)).1
theorem prtL_ne(s:ByteArray)(c:Int):prtL s c≠[]:=by rw[prtL,prt_end];simp
theorem djParts(s:ByteArray)(c:Int)(hs:s.size<=1000){K:KT}(hK:K (.lst ((prtL s c).map encSt)) []):AC 315 [.v (.string s),.v (.int .u8 c)] [] K:=by
 refine ofq1Parts rfl rfl ?_
 (repeat' ((conv=>whnf);first|refine zG ?_|apply zA|intro h|exact zT));all_goals conv=>whnf
 refine gL (List ByteArray×Nat×Nat) (fun g=>⟨1,[(0,.arr 1 (g.1.map encSt))],[(0,.v (.string s)),(1,.v (.int .u8 c)),(5,.os 0 1 0 g.1.length),(6,.v (.int .i64 g.2.1)),(7,.v (.int .i64 g.2.2))]⟩)
  (fun g=>g.2.2<=s.size+1/\prt s c g.2.2=(g.1,g.2.1)) (fun g=>s.size+1-g.2.2) ([],0,0) ⟨by simp only;omega,rfl⟩ ?_ ?_
 ·(exact leA)
 rintro⟨l,a,i⟩ ⟨h1,hg⟩
 simp only at h1 hg⊢
 have hle:=prt_le s c i
 rw[hg]at hle
 obtain⟨h2,h3⟩:=hle
 simp only at h2 h3
 rcases aD i (s.size+1)with hl|hl
 ·have hstep:prt s c (i+1)=if atB s c i=true then(l++[s.extract a i],i+1)else(l,a):=by rw[prt,hg]
  (repeat' ((conv=>whnf);first|(with_reducible first|refine hU zo ?_|refine ix_ba zo fun b hb=>?_|refine gV a i rfl rfl zo zo ?_)|refine zG ?_|apply zA|intro h|exact zT));all_goals conv=>whnf
  all_goals first
   |(have hno:atB s c i=false:=by rw[atB,hb];exact decide_eq_false h
     rw[hno,aE zd]at hstep
     refine⟨(l,a,i+1),⟨by simp only;omega,hstep⟩,by simp only;omega,?_⟩
     rw[show(((l,a,i+1):List ByteArray×Nat×Nat).2.2:Int)=(i:Int)+1 from by simp only;omega]
     (exact leA)
     done)
   |(have hyes:atB s c i=true:=by
      first
       |(rw[atB,hb];exact decide_eq_true h)
       |(rw[show i=s.size by omega];exact at_end s c)
     rw[hyes,aH rfl]at hstep
     refine⟨(l++[s.extract a i],i+1,i+1),⟨by simp only;omega,hstep⟩,by simp only;omega,?_⟩
     simp only[aQ,aC,aW,bN,aK,aP,aO,aN]
     (exact leA)
     done)
   |(exfalso;omega)
 ·(repeat' ((conv=>whnf);first|(with_reducible refine sl_full (aA ..) ?_)|refine zG ?_|apply zA|intro h|exact zT));all_goals conv=>whnf
  rw[prtL,show s.size+1=i by omega,hg]at hK
  exact hK
noncomputable def dayIx(s:ByteArray):Int:=firstIx (fun x=>sEq x s) dayL
theorem djDay(s:ByteArray){K:KT}(hK:K (.v (.int .i64 (dayIx s))) []):AC 316 [.v (.string s)] [] K:=by
 unfold dayIx at hK
 refine ofq9Day rfl rfl ?_
 (repeat' ((conv=>whnf);first|(with_reducible refine cqDays ?_)|refine zG ?_|apply zA|intro h|exact zT));all_goals conv=>whnf
 refine gL Nat (fun i=>⟨0,[],[(0,.v (.string s)),(3,.lst (dayL.map encSt)),(4,.v (.int .i64 i))]⟩) (fun i=>i<=dayL.length/\∀(j:Nat) y,j<i->dayL[j]? =some y->sEq y s=false) (fun i=>dayL.length-i) 0 ⟨aL _,fun i y hi=>absurd hi (aY _)⟩ ?_ ?_
 ·(exact leA)
 intro i ⟨hi,hinv⟩
 have h7:dayL.length=7:=rfl
 rcases aD i dayL.length with hl|hl
 ·obtain⟨x,hx⟩:=gex hl
  (repeat' ((conv=>whnf);first|(with_reducible first|refine hJ hl ?_|refine gZ hx ?_)|refine zG ?_|apply zA|intro h|exact zT));all_goals conv=>whnf
  ·rw[firstIx_at (p:=fun x=>sEq x s) hx (show sEq x s=true from h) hinv]at hK
   exact hK
  ·refine⟨i+1,⟨hl,before_succ (p:=fun x:ByteArray=>sEq x s) hx h hinv⟩,by omega,?_⟩
   rw[aO,aN]
   (exact leA)
 ·(repeat' ((conv=>whnf);first|refine zG ?_|apply zA|intro h|exact zT));all_goals conv=>whnf
  rw[firstIx_none (p:=fun x=>sEq x s) (iB hl hinv)]at hK
  exact hK
structure DayW (s:ByteArray):Prop where
 size:s.size<=1000
 two:(prtL s 45).length<=2
 ok:∀x y,(prtL s 45)[0]? =some x->(prtL s 45)[(prtL s 45).length-1]? =some y->0<=dayIx x/\dayIx x<=dayIx y/\dayIx y<=6/\dayIx y<=dayIx x+4
theorem djSpan(s:ByteArray)(hs:DayW s){K:KT}(hK:∀a b:Int,0<=a->a<=b->b<=6->b<=a+4->K (.tup [.v (.int .i64 a),.v (.int .i64 b)]) []):AC 260 [.v (.string s)] [] K:=by
 have h2:=hs.two
 have hok:=hs.ok
 have hpos:=dC.2 (prtL_ne s 45)
 refine ofq9Span rfl rfl ?_
 have hp:=fun {K} h=>@djParts s 45 hs.size K h
 generalize prtL s 45=l at*
 have hm:((l.length:Nat):Int)-1=((l.length-1:Nat):Int):=by omega
 obtain⟨x,hx⟩:=gex hpos
 obtain⟨y,hy⟩:∃y,l[l.length-1]? =some y:=⟨_,aB zo⟩
 obtain⟨q0,q1,q2,q3⟩:=hok x y hx hy
 (repeat' ((conv=>whnf);first|(with_reducible refine hp ?_)|(refine gS 0 rfl (by rw[aA];omega) ?_)|(with_reducible first|refine wr_i64 (r:=((l.length-1:Nat):Int)) (by rw[aA];omega) zo zo ?_|refine hJ zo ?_|refine gZ hx ?_|refine gZ hy ?_|refine djDay _ ?_)|refine zG ?_|apply zA|intro h|exact zT));all_goals conv=>whnf
 all_goals first
  |exact hK _ _ q0 q1 q2 q3
  |(exfalso;simp only[aA]at*;omega)
def dayD(s:ByteArray):Int:=firstIx (fun x=>sEqD x s) dayL
theorem day_eq(s:ByteArray):dayIx s=dayD s:=by
 unfold dayIx dayD
 congr 1
 funext x
 rw[sEq_data];rfl
theorem winL_days:∀s,s∈winL->DayW s:=by
 have h:∀s,s∈winL->s.size<=1000/\(prtL s 45).length<=2/\(0<=dayD ((prtL s 45).getD 0 s)/\dayD ((prtL s 45).getD 0 s)<=dayD ((prtL s 45).getD ((prtL s 45).length-1) s)/\dayD ((prtL s 45).getD ((prtL s 45).length-1) s)<=6/\dayD ((prtL s 45).getD ((prtL s 45).length-1) s)<=dayD ((prtL s 45).getD 0 s)+4):=by decide+kernel
 intro s hs
 obtain⟨h1,h2,h3⟩:=h s hs
 refine⟨h1,h2,fun x y hx hy=>?_⟩
 rw[List.getD,hx,List.getD,hy]at h3
 rw[day_eq,day_eq]
 exact h3
theorem djTimes(s:ByteArray)(hs:s.size<=1000){K:KT}(hK:∀a b:Int,(a= -1\/(0<=a/\a<b))->b<=1440-> -1<=b->K (.tup [.v (.int .i64 a),.v (.int .i64 b)]) []):AC 261 [.v (.string s)] [] K:=by
 refine ofq9Times rfl rfl ?_
 (repeat' ((conv=>whnf);first|(with_reducible refine cqParts s _ hs fun l hl hn=>?_)|(refine gS 0 rfl zo ?_)|(refine gS 1 rfl zo ?_)|(with_reducible first|refine iA (by simp only[aA]at*;omega) fun c hc=>?_|refine cqClock _ fun r r0 r1=>?_)|refine zG ?_|apply zA|intro h|exact zT));all_goals conv=>whnf
 all_goals first
  |exact hK _ _ zo zo zo
def OutOk(out:List Rg):Prop:=∀r,r∈out->∃d:Nat,d<7/\1440*(d:Int)<=r.lo/\r.lo<=r.hi/\r.hi<=1440*(d:Int)+1439
def inD(d:Nat)(r:Rg):Bool:=decide (1440*(d:Int)<=r.lo)&&decide (r.hi<=1440*(d:Int)+1439)
theorem ind_le{p:Nat->Bool}{k:Nat}(h:∀d,p d=true->d=k):∀n,((List.range n).map fun d=>if p d=true then 1 else 0).sum<=if k<n then 1 else 0
 |0=>by simp
 |n+1=>by
  have ih:=ind_le h n
  rw[fK,aQ,List.sum_append]
  simp only[aW,bN,cQ,List.sum_nil]
  by_cases hp:p n=true
  ·have:=h n hp
   subst this
   rw[aH hp,aH (Nat.lt_succ_self _)]
   rw[aE (Nat.lt_irrefl _)]at ih
   omega
  ·rw[aE hp]
   split at ih
   ·rw[aH zo];omega
   ·split<;>omega
theorem sum_add2{α:Type}(f g:α->Nat):∀l:List α,(l.map fun d=>f d+g d).sum=(l.map f).sum+(l.map g).sum
 |[]=>rfl
 |x::l=>by simp only[aW,cQ,sum_add2 f g l];omega
theorem sum_days:∀out:List Rg,(∀r,r∈out->r.lo<=r.hi)->((List.range 7).map fun d=>(out.filter (inD d)).length).sum<=out.length
 |[],_=>Nat.le_of_eq rfl
 |r::out,h=>by
  have ih:=sum_days out fun x hx=>h x (aX _ hx)
  have e:((List.range 7).map fun d=>((r::out).filter (inD d)).length)=(List.range 7).map fun d=>(if inD d r=true then 1 else 0)+(out.filter (inD d)).length:=by
   refine dU fun d _=>?_
   rw[eD]
   split
   ·rw[aK];omega
   ·omega
  have hr:=h r zx
  have h1:=ind_le (p:=fun d=>inD d r) (k:=(r.lo/1440).toNat) (fun d hd=>by
   simp only[inD,aF,aI]at hd
   omega) 7
  rw[e,sum_add2,aK]
  have h2:(if(r.lo/1440).toNat<7 then 1 else 0)<=1:=by split<;>omega
  omega
theorem win_of_out{out rs:List Rg}(ho:OutOk out)(hl:out.length<=16)(hc:Canon rs)(hh:∀v,has rs v=has out v):WinOk rs:=by
 refine⟨hc,fun r hr=>?_,?_⟩
 ·have h1:=has_iff.2 ⟨r,hr,hc.1 r hr,cD _⟩
  rw[hh]at h1
  obtain⟨q,hq,q1,q2⟩:=has_iff.1 h1
  obtain⟨d,d1,d2,d3,d4⟩:=ho q hq
  omega
 ·have hd:∀d,(dayW rs d).length<=(out.filter (inD d)).length:=fun d=>by
   have e:(fun v=>has rs v&&(decide (1440*(d:Int)<=v)&&decide (v<=1440*(d:Int)+1439)))=has (out.filter (inD d)):=by
    funext v
    rw[hh,bD]
    simp only[aF,aI]
    constructor
    ·rintro⟨h1,h2,h3⟩
     obtain⟨q,hq,q1,q2⟩:=has_iff.1 h1
     obtain⟨e,d1,d2,d3,d4⟩:=ho q hq
     have:e=d:=by omega
     subst this
     exact has_iff.2 ⟨q,bX.2 ⟨hq,by simp only[inD,aF,aI];omega⟩,q1,q2⟩
    ·intro h
     obtain⟨q,hq,q1,q2⟩:=has_iff.1 h
     obtain⟨hq1,hq2⟩:=bX.1 hq
     simp only[inD,aF,aI]at hq2
     exact⟨has_iff.2 ⟨q,hq1,q1,q2⟩,by omega,by omega⟩
   unfold dayW
   rw[e]
   exact canO_len _
  have hs:=sum_days out fun r hr=>by obtain⟨d,d1,d2,d3,d4⟩:=ho r hr;exact d3
  have hm:cntW rs 7<=((List.range 7).map fun d=>(out.filter (inD d)).length).sum:=by
   unfold cntW
   generalize List.range 7=l
   induction l with
   |nil=>simp
   |cons x l ih=>simp only[aW,cQ];have:=hd x;omega
  omega
theorem win_nil:WinOk []:=win_of_out (out:=[]) (fun r h=>by cases h) zx canon_nil fun v=>rfl
structure Wds (ws:List ByteArray):Prop where
 mod:ws.length%3=2
 len:ws.length<=8
 size:∀s,s∈ws->s.size<=1000
 day:∀(j:Nat) s,ws[3*j]? =some s->DayW s
theorem djParse(ws:List ByteArray)(hw:Wds ws){K:KT}(hK:∀(rs:List Rg) (e:Int),WinOk rs->rs.length<=16->K (.tup [encRs rs,.v (.int .i64 e)]) []):AC 189 [.lst (ws.map encSt)] [] K:=by
 have hl:=hw.len
 have hmod:=hw.mod
 have hm:(ws.length:Int).tmod 3=((ws.length%3:Nat):Int):=by rw[fN zo];omega
 refine gP (ofq9Parse rfl rfl ?_)
 (repeat' ((conv=>whnf);first|(refine gS 0 rfl zo ?_)|(with_reducible first|refine iA (by simp only[aA]at*;omega) fun c hc=>?_|refine Ob.intro zd ?_)|refine zG ?_|apply zA|intro h|exact zT));all_goals conv=>whnf
 all_goals first
  |exact⟨_,gQ gR gM,hK [] _ win_nil zx⟩
  |skip
 all_goals
  refine gL (Nat×List Rg) (fun g=>⟨1,[(0,.arr 2 (g.2.map encR))],[(0,.lst (ws.map encSt)),(4,.os 0 2 0 g.2.length),(5,.v (.int .i64 (3*g.1:Nat)))]⟩)
   (fun g=>3*g.1<=ws.length+1/\g.2.length<=5*g.1/\OutOk g.2) (fun g=>ws.length+3-3*g.1) (0,[]) ⟨aL _,aL _,fun r h=>by cases h⟩ ?_ ?_
  ·(exact leA)
  rintro⟨i,out⟩ ⟨h2,h3,h4⟩
  simp only at h2 h3 h4⊢
  rcases aD (3*i) ws.length with hil|hil
  ·have hi1:3*i+1<ws.length:=by omega
   obtain⟨s0,hs0⟩:∃s,ws[3*i]? =some s:=⟨_,aB hil⟩
   obtain⟨s1,hs1⟩:∃s,ws[3*i+1]? =some s:=⟨_,aB hi1⟩
   (repeat' ((conv=>whnf);first|(with_reducible first|refine hJ hil ?_|refine gZ hs0 ?_|refine gS (3*i+1) zo (by rw[aA];exact hi1) ?_|refine gZ hs1 ?_|refine djSpan s0 (hw.day i s0 hs0) fun a b a0 a1 a2 a3=>?_|refine djTimes s1 (hw.size _ (aG hs1)) fun f g f0 g1 g0=>?_|refine gS (3*i+2) zo (by rw[aA]at*;omega) ?_|refine iA (by simp only[aA]at*;omega) fun c hc=>?_)|refine zG ?_|apply zA|intro h|exact zT));all_goals conv=>whnf
   all_goals first
    |exact⟨_,gQ gR gM,hK [] _ win_nil zx⟩
    |skip
   all_goals
    have hf:0<=f/\f<g:=by omega
    refine gL (Int×List Rg) (fun q=>⟨1,[(0,.arr 2 (q.2.map encR))],[(0,.lst (ws.map encSt)),(4,.os 0 2 0 q.2.length),(5,.v (.int .i64 (3*i:Nat))),(7,.v (.int .i64 b)),(8,.v (.int .i64 f)),(9,.v (.int .i64 g)),(10,.v (.int .i64 q.1))]⟩)
     (fun q=>a<=q.1/\q.1<=b+1/\(q.2.length:Int)<=5*i+(q.1-a)/\OutOk q.2) (fun q=>(7-q.1).toNat) (a,out) ⟨by simp only;omega,by simp only;omega,by simp only;omega,h4⟩ ?_ ?_
    ·(exact leA)
    rintro⟨d,ou⟩ ⟨k1,k2,k3,k4⟩
    simp only at k1 k2 k3 k4⊢
    rcases dO b d with hbd|hbd
    ·(repeat' ((conv=>whnf);first|refine zG ?_|apply zA|intro h|exact zT));all_goals conv=>whnf
     refine⟨(i+1,ou),⟨by simp only;omega,by simp only;omega,k4⟩,by simp only;omega,?_⟩
     rw[show((3*((i+1,ou):Nat×List Rg).1:Nat):Int)=((3*i:Nat):Int)+3 from by simp only;omega]
     (exact leA)
    ·(repeat' ((conv=>whnf);first|(with_reducible first|refine wr_i64 rfl zo zo ?_|refine wr_u32 rfl zo zo ?_)|refine zG ?_|apply zA|intro h|exact zT));all_goals conv=>whnf
     refine⟨(d+1,ou++[⟨1440*d+f,1440*d+g-1,by omega,by omega,by omega,by omega⟩]),⟨by simp only;omega,by simp only;omega,by simp only[aC,aK,aP];omega,fun r hr=>?_⟩,by simp only;omega,?_⟩
     ·rcases aU.1 hr with hr|hr
      ·exact k4 r hr
      ·rw[aR.1 hr]
       exact⟨d.toNat,by omega,by simp only;omega,by simp only;omega,by simp only;omega⟩
     ·simp only[aQ,aC,aW,bN,aK,aP]
      (exact leA)
  ·(repeat' ((conv=>whnf);first|(with_reducible first|refine Ob.intro zd ?_|refine wr_any fun r=>?_|refine sl_full (aA ..) ?_)|(refine c14 out [] zo zx fun rs q1 q2 q3=>?_)|refine zG ?_|apply zA|intro h|exact zT));all_goals conv=>whnf
   all_goals first
    |exact⟨_,gQ gR gM,hK [] _ win_nil zx⟩
    |exact⟨_,gM,hK _ _ (win_of_out h4 zo q1 fun v=>by rw[q2,has_nil];simp) (bO (canon_len (rs:=out) q1 fun v=>by rw[q2,has_nil];simp) zo)⟩
theorem wds_two{c e:ByteArray}(hc:c∈winL)(he:e.size<=1000):Wds [c,e] where
 mod:=rfl
 len:=by simp
 size:=fun s hs=>by
  simp only[aS,cK,or_false]at hs
  rcases hs with rfl|rfl
  ·exact(winL_days _ hc).size
  ·exact he
 day:=fun j s hs=>by
  have:=(aM.1 hs).1
  simp only[aK,aP]at this
  obtain rfl:j=0:=by omega
  cases hs
  exact winL_days _ hc
theorem wds_snoc{ws:List ByteArray}{x y:ByteArray}(h:Wds ws)(hl:ws.length<=5)(hx:x∈winL)(hy:y.size<=1000):Wds (ws++[⟨#[44]⟩,x,y]) where
 mod:=by have:=h.mod;simp only[aC,aK,aP];omega
 len:=by simp only[aC,aK,aP];omega
 size:=fun s hs=>by
  rcases aU.1 hs with hs|hs
  ·exact h.size s hs
  ·simp only[aS,cK,or_false]at hs
   rcases hs with rfl|rfl|rfl
   ·decide
   ·exact(winL_days _ hx).size
   ·exact hy
 day:=fun j s hs=>by
  have hm:=h.mod
  rcases aD (3*j) ws.length with hlt|hge
  ·rw[bC hlt]at hs
   exact h.day j s hs
  ·rw[bB hge]at hs
   have:=(aM.1 hs).1
   simp only[aK,aP]at this
   rw[show 3*j-ws.length=1 by omega]at hs
   cases hs
   exact winL_days _ hx
theorem enWin(raw:List Int)(pos:Nat)(hp:pos<=raw.length)(hr:raw.length<=9223372036854775807){K:KT}
  (hK:∀(rs:List Rg) (pos':Nat),WinOk rs->rs.length<=16->pos'<=raw.length->K (encRs rs) [tapeO raw pos']):AC 107 [.op 0 0] [tapeO raw pos] K:=by
 have b2:∀s,s∈houL->s.size<=1000:=by decide+kernel
 refine ofnWin rfl rfl ?_
 (repeat' ((conv=>whnf);first|(with_reducible first|refine nNext raw _ _ zo zp hr fun m1 p1 hm1 hp1=>?_|refine hU zo ?_|refine ix_strs winL 6 rfl rfl zo fun c hc=>?_|refine ix_strs houL 5 rfl rfl zo fun e he=>?_)|refine zG ?_|apply zA|intro h|exact zT));all_goals conv=>whnf
 all_goals
  refine gL (Nat×Nat×List ByteArray) (fun g=>⟨4,[(0,tapeO raw g.1),(1,.arr 1 (winL.map encSt)),(2,.arr 1 (houL.map encSt)),(3,.arr 1 (g.2.2.map encSt))],[(0,.op 0 0),(3,.os 1 1 0 6),(4,.os 2 1 0 5),(5,.os 3 1 0 g.2.2.length),(6,.v (.int .i64 g.2.1))]⟩)
   (fun g=>g.1<=raw.length/\3*g.2.1+g.2.2.length<=8/\Wds g.2.2) (fun g=>g.2.1) (p1,m1,[c,e]) ⟨hp1,by simp only[aK,aP];omega,wds_two hc (b2 _ he)⟩ ?_ ?_
  ·(exact leA)
  rintro⟨p2,i,ws⟩ ⟨h1,h2,h3⟩
  simp only at h1 h2 h3⊢
  rcases aD 0 i with hi0|hi0
  ·obtain⟨i',rfl⟩:∃i',i=i'+1:=⟨i-1,by omega⟩
   have hi1:((i'+1:Nat):Int)-1=(i':Int):=by omega
   (repeat' ((conv=>whnf);first|(with_reducible first|refine wr_i64 hi1 zo zo ?_|refine nNext raw _ _ zo zp hr fun m1 p1 hm1 hp1=>?_|refine hU zo ?_|refine ix_strs winL 6 rfl rfl zo fun x hx=>?_|refine ix_strs houL 5 rfl rfl zo fun y hy=>?_)|refine zG ?_|apply zA|intro h|exact zT));all_goals conv=>whnf
   all_goals first
    |(refine⟨(p1,i',ws++[⟨#[44]⟩,x,y]),⟨hp1,by simp only[aC,aK,aP];omega,wds_snoc h3 zo hx (b2 _ hy)⟩,by simp only;omega,?_⟩
      simp only[aQ,aC,aW,bN,aK,aP]
      (exact leA))
  ·obtain rfl:i=0:=by omega
   (repeat' ((conv=>whnf);first|(with_reducible first|refine sl_full (aA ..) ?_|refine djParse ws h3 fun rs e hrs hrl=>?_)|refine zG ?_|apply zA|intro h|exact zT));all_goals conv=>whnf
   exact hK _ _ hrs hrl h1
theorem ckDig(n:Int){K:KT}(hK:∀s:ByteArray,s.size<=2->K (.v (.string s)) []):AC 326 [.v (.int .i64 n)] [] K:=by
 refine ofkDig rfl rfl ?_
 (repeat' ((conv=>whnf);first|(with_reducible first|refine Ob.intro zd ?_|refine wr_any fun r=>?_)|(refine sl_full (by rfl) ?_)|refine zG ?_|apply zA|intro h|exact zT));all_goals conv=>whnf
 exact hK _ (by rw[strOfNums_size];simp)
theorem ckTime(n:Int){K:KT}(hK:∀s:ByteArray,s.size<=5->K (.v (.string s)) []):AC 298 [.v (.int .i64 n)] [] K:=by
 have z1:(⟨#[58]⟩:ByteArray).size=1:=rfl
 refine ofkTime rfl rfl ?_
 (repeat' ((conv=>whnf);first|(with_reducible first|refine Ob.intro zd ?_|refine wr_any fun r=>?_|refine ckDig _ fun s hs=>?_|refine Ob.intro (by(try simp only[ByteArray.size_append]);omega) ?_)|refine zG ?_|apply zA|intro h|exact zT));all_goals conv=>whnf
 exact hK _ (by simp only[ByteArray.size_append];omega)
theorem ckForm(l:List Rg)(hl:l.length<=4000){K:KT}(hK:∀ss:List ByteArray,ss.length=fmtL l->ss.length<=300000->K (.lst (ss.map encSt)) []):AC 249 [encRs l] [] K:=by
 refine gP (ofkForm rfl rfl ?_)
 (repeat' ((conv=>whnf);first|(with_reducible refine c28 l 10079 zo fun s hs=>?_)|(refine sl_full (by rfl) ?_)|refine zG ?_|apply zA|intro h|exact zT));all_goals conv=>whnf
 all_goals first
  |exact⟨_,gR,hK [] (by rw[fmtL,aE (fun hh=>by have:=hs.2 hh;simp_all)];rfl) zx⟩
  |exact⟨_,gM,hK [⟨#[110,101,118,101,114]⟩] (by
    have hl0:l=[]:=cE.1 (by simp only[aA]at*;omega)
    rw[fmtL,aH (hs.1 (by simp_all)),fmtN,aH hl0];rfl) zx⟩
  |skip
 have hv:Canon l/\∀r,r∈l->r.hi<=10079:=hs.1 (by simp_all)
 have hne:l≠[]:=fun e=>by subst e;simp_all
 rw[fmtL,aH hv,fmtN,aE hne]at hK
 refine gL (Nat×List ByteArray) (fun g=>⟨1,[(0,.arr 1 (g.2.map encSt))],[(0,encRs l),(3,.os 0 1 0 g.2.length),(16,.agg (dayL.map encSt)),(17,.v (.int .i64 g.1))]⟩)
  (fun g=>g.1<=7/\g.2.length<=40000*g.1/\g.2.length=3*cntW l g.1-1) (fun g=>7-g.1) (0,[]) ⟨aL _,aL _,rfl⟩ ?_ ?_
 ·(exact leA)
 rintro⟨d,ss⟩ ⟨hd,hss,hsn⟩
 simp only at hd hss hsn⊢
 rcases aD d 7 with hd7|hd7
 ·have hint:∀{K:KT},(∀out,Canon out->(∀v,has out v=(has l v&&has [mkR (1440*d) (1440*d+1439)] v))->out.length<=l.length+1->K (encRs out) [])->AC 297 [encRs l,.lst [encR (mkR (1440*d) (1440*d+1439))]] [] K:=fun h=>c19 l [mkR (1440*d) (1440*d+1439)] zo zx h
  have m1:(mkR (1440*(d:Int)) (1440*d+1439)).lo=1440*d:=mkR_lo zo zo zo zo
  have m2:(mkR (1440*(d:Int)) (1440*d+1439)).hi=1440*d+1439:=mkR_hi zo zo zo zo
  have hint2:∀{K:KT},(∀out,Canon out->(∀v,has out v=(has l v&&has [mkR (1440*d) (1440*d+1439)] v))->out.length<=l.length+1->K (encRs out) [])->AC 297 [encRs l,.lst [.agg [.v (.int .u32 ((d:Int)*1440)),.v (.int .u32 ((d:Int)*1440+1440-1))]]] [] K:=fun h=>by
   have:=hint h
   simp only[encR,m1,m2]at this
   rw[show(d:Int)*1440=1440*d by omega,show 1440*(d:Int)+1440-1=1440*d+1439 by omega]
   exact this
  (repeat' ((conv=>whnf);first|refine zG ?_|apply zA|intro h|exact zT));all_goals conv=>whnf
  refine gU ByteArray (fun c=>⟨1,[(0,.arr 1 (ss.map encSt))],[(0,encRs l),(3,.os 0 1 0 ss.length),(4,.v (.int .i64 d)),(5,.v (.string c)),(16,.agg (dayL.map encSt)),(17,.v (.int .i64 d))]⟩) (fun c=>c.size<=3) ?_ ?_
  ·obtain rfl|rfl|rfl|rfl|rfl|rfl|rfl:d=0\/d=1\/d=2\/d=3\/d=4\/d=5\/d=6:=by omega
   all_goals
    (repeat' ((conv=>whnf);first|(with_reducible refine gS _ rfl zd ?_)|refine zG ?_|apply zA|intro h|exact zT));all_goals conv=>whnf
    first
     |(refine⟨⟨#[109,111,110]⟩,by decide,?_⟩
       (exact leA)
       done)
     |(refine⟨⟨#[116,117,101]⟩,by decide,?_⟩
       (exact leA)
       done)
     |(refine⟨⟨#[119,101,100]⟩,by decide,?_⟩
       (exact leA)
       done)
     |(refine⟨⟨#[116,104,117]⟩,by decide,?_⟩
       (exact leA)
       done)
     |(refine⟨⟨#[102,114,105]⟩,by decide,?_⟩
       (exact leA)
       done)
     |(refine⟨⟨#[115,97,116]⟩,by decide,?_⟩
       (exact leA)
       done)
     |(refine⟨⟨#[115,117,110]⟩,by decide,?_⟩
       (exact leA)
       done)
  intro dn hdn
  (repeat' ((conv=>whnf);first|(with_reducible first|refine wr_i64 rfl zo zo ?_|refine wr_u32 rfl zo zo ?_)|(refine sl_full (by rfl) ?_)|(with_reducible refine hint2 fun out ho hh hn=>?_)|refine zG ?_|apply zA|intro h|exact zT));all_goals conv=>whnf
  have hday:dayW l d=out:=dayW_eq ho fun v=>by
   rw[hh v]
   rw[has_day hd7]
  have hcs:=cntW_succ l d
  rw[hday]at hcs
  refine gL (Nat×List ByteArray) (fun g=>⟨3,[(0,.arr 1 (g.2.map encSt)),(1,.box [.v (.int .u32 ((d:Int)*1440)),.v (.int .u32 ((d:Int)*1440+1440-1))])],[(0,encRs l),(3,.os 0 1 0 g.2.length),(5,.v (.string dn)),(6,.op 1 0),(16,.agg (dayL.map encSt)),(17,.v (.int .i64 d)),(33,encRs out),(34,.v (.int .i64 (out.map encR).length)),(35,.v (.int .i64 g.1))]⟩)
   (fun g=>g.1<=out.length/\g.2.length<=ss.length+3*g.1/\g.2.length=3*(cntW l d+g.1)-1) (fun g=>out.length-g.1) (0,ss) ⟨aL _,by simp only;omega,by simp only;omega⟩ ?_ ?_
  ·(exact leA)
  rintro⟨i,st⟩ ⟨hi,hst,hstn⟩
  simp only at hi hst hstn⊢
  rcases aD i out.length with hil|hil
  ·obtain⟨r,hr⟩:=gex hil
   have hrm:=aG hr
   have hle:=canon_le ho hrm
   have hb:∀v,r.lo<=v->v<=r.hi->1440*(d:Int)<=v/\v<=1440*d+1439:=fun v h1 h2=>by
    have h3:has out v=true:=has_iff.2 ⟨r,hrm,h1,h2⟩
    rw[hh,has_day hd7]at h3
    simp only[aF,aI]at h3
    exact h3.2
   have hb1:=hb r.lo (cD _) hle
   have hb2:=hb r.hi hle (cD _)
   (repeat' ((conv=>whnf);first|(with_reducible first|refine hJ hil ?_|refine gZ hr ?_)|refine zG ?_|apply zA|intro h|exact zT));all_goals conv=>whnf
   refine gU (List ByteArray) (fun g=>⟨4,[(0,.arr 1 (g.map encSt)),(1,.box [.v (.int .u32 ((d:Int)*1440)),.v (.int .u32 ((d:Int)*1440+1440-1))]),(3,.box [.v (.int .u32 r.lo),.v (.int .u32 r.hi)])],[(0,encRs l),(3,.os 0 1 0 g.length),(5,.v (.string dn)),(6,.op 1 0),(8,.op 3 0),(16,.agg (dayL.map encSt)),(17,.v (.int .i64 d)),(33,encRs out),(34,.v (.int .i64 (out.map encR).length)),(35,.v (.int .i64 i))]⟩) (fun g=>g.length<=st.length+1/\g.length=3*(cntW l d+i)) ?_ ?_
   ·(repeat' ((conv=>whnf);first|(refine sl_full (by rfl) ?_)|refine zG ?_|apply zA|intro h|exact zT));all_goals conv=>whnf
    ·refine⟨st++[⟨#[44]⟩],⟨by simp,by simp only[aC,aK,aP];omega⟩,?_⟩
     simp only[aQ,aC,aW,bN,aK,aP]
     (exact leA)
    ·refine⟨st,⟨by omega,by omega⟩,?_⟩
     (exact leA)
   rintro su ⟨hsu,hsun⟩
   have z1:(⟨#[45]⟩:ByteArray).size=1:=rfl
   (repeat' ((conv=>whnf);first|(with_reducible first|refine wr_u32 rfl zo zo ?_|refine wr_i64 rfl zo zo ?_|refine ckTime _ fun s hs=>?_)|(refine sl_full (by rfl) ?_)|(with_reducible refine Ob.intro (by(try simp only[ByteArray.size_append]);omega) ?_)|refine zG ?_|apply zA|intro h|exact zT));all_goals conv=>whnf
   rename_i q1 sA hsA
   refine⟨(i+1,su++[dn,sA++⟨#[45]⟩++s]),⟨by simp only;omega,by simp only[aC,aK,aP];omega,by simp only[aC,aK,aP];omega⟩,by simp only;omega,?_⟩
   simp only[aQ,aC,aW,bN,aK,aP,aO,aN]
   (exact leA)
  ·(repeat' ((conv=>whnf);first|refine zG ?_|apply zA|intro h|exact zT));all_goals conv=>whnf
   refine⟨(d+1,st),⟨by simp only;omega,by simp only;omega,by simp only;omega⟩,by simp only;omega,?_⟩
   rw[show(((d+1,st):Nat×List ByteArray).1:Int)=(d:Int)+1 from by simp only;omega]
   (exact leA)
 ·(repeat' ((conv=>whnf);first|(with_reducible refine sl_full (aA ..) ?_)|refine zG ?_|apply zA|intro h|exact zT));all_goals conv=>whnf
  exact⟨_,gM,hK ss (by rw[hsn,show d=7 by omega]) zo⟩
theorem ckPrt(p:Int)(r:Rg){K:KT}(hK:K (.sb (prB p r)) []):AC 295 [.v (.int .i64 p),.agg [.v (.int .u32 r.lo),.v (.int .u32 r.hi)]] [] K:=by
 refine gO (ofiPrt rfl rfl ?_)
 have hl0:=r.l0
 (repeat' ((conv=>whnf);first|(refine eqw_Rg ?_)|refine zG ?_|apply zA|intro h|exact zT));all_goals conv=>whnf
 all_goals first
  |refine fin_t hK ?_
  |refine fin_f hK ?_
  |refine fin_s hK ?_
 all_goals
  unfold prB
  simp_all
 all_goals first
  |omega
  |(rw[aE zo,aE zo];intros;omega)
theorem ckItem(x:It)(v:Bool){K:KT}(hK:K (.sb (itB x (!v))) []):AC 248 [encIt x,.sb v] [] K:=by
 refine gO (ofiItem rfl rfl ?_)
 have hs:=sEq_self x.name
 (repeat' ((conv=>whnf);first|(with_reducible first|refine csName _ ?_|refine cpVal x.pf ?_|refine ckPrt x.proto x.ports ?_)|(refine eqw_It ?_)|refine zG ?_|apply zA|intro h|exact zT));all_goals conv=>whnf
 all_goals first
  |refine fin_t hK ?_
  |refine fin_f hK ?_
  |refine fin_s hK ?_
 all_goals
  unfold itB
  simp_all[itN,itP,itS]
theorem ckOpt(s:ByteArray){K:KT}(hK:K (.sb (optB s)) []):AC 252 [.v (.string s)] [] K:=by
 refine gO (ofiEmp rfl rfl ?_)
 (repeat' ((conv=>whnf);first|(with_reducible refine csName _ ?_)|refine zG ?_|apply zA|intro h|exact zT));all_goals conv=>whnf
 all_goals first
  |exact fin_t hK (by unfold optB sEq;simp_all)
  |exact fin_s hK (by unfold optB sEq;simp_all)
theorem ckWri(l:List Rg)(hl:l.length<=4000){K:KT}(hK:∀ss:List ByteArray,K (.tup [.lst (ss.map encSt),.sb (winB l)]) []):AC 174 [encRs l] [] K:=by
 have h1:1<=fmtN l\/l≠[]:=by
  by_cases h:l=[]
  ·left;rw[fmtN,aH h];exact aJ _
  ·exact .inr h
 refine gP (ofiWri rfl rfl ?_)
 (repeat' ((conv=>whnf);first|(with_reducible refine ckForm l hl fun ss hss hsl=>?_)|refine zG ?_|apply zA|intro h|exact zT));all_goals conv=>whnf
 ·have hq2:(((ss.map encSt).length:Int)+1).tdiv 3=(((ss.length+1)/3:Nat):Int):=by rw[aA,dF zo];omega
  (repeat' ((conv=>whnf);first|(with_reducible first|refine wr_i64 hq2 zo zo ?_|refine wr_i64 rfl (by(try simp only[aA]);omega) (by(try simp only[aA]);omega) ?_|refine Ob.intro zd ?_)|refine zG ?_|apply zA|intro h|exact zT));all_goals conv=>whnf
  refine⟨_,gM,?_⟩
  have e:decide ((((ss.length+1)/3:Nat):Int)<=16)=winB l:=by
   rw[bD,winB_iff,win_iff,aI]
   unfold fmtL at hss
   simp only[aA]at h
   by_cases hv:Canon l/\∀r,r∈l->r.hi<=10079
   ·rw[aH hv]at hss
    have h3:fmtN l=1\/fmtN l=3*cntW l 7-1:=by
     unfold fmtN;split
     ·exact .inl rfl
     ·exact .inr rfl
    exact⟨fun h=>⟨hv,by omega⟩,fun h=>by omega⟩
   ·rw[aE hv]at hss;omega
  rw[e];exact hK _
 ·refine⟨_,gQ gM Weak.bool,?_⟩
  have e:winB l=false:=by
   rw[bV,ne_eq,winB_iff,win_iff]
   rintro⟨hv,_⟩
   rw[fmtL,aH hv]at hss
   simp only[aA]at h
   have h0:fmtN l=0:=by omega
   rcases h1 with h1|h1
   ·omega
   ·have:=dayW_ne hv.1 hv.2 h1
    rw[fmtN,aE h1]at h0;omega
  rw[<-e];exact hK _
theorem ckSm(x:Sm){K:KT}(hK:K (.sb (smB x)) []):AC 179 [encSm x] [] K:=by
 refine gO (ofiSm rfl rfl ?_)
 (repeat' ((conv=>whnf);first|(with_reducible first|refine Lp.times 8 ?_|refine ckOpt _ ?_)|(refine in_c zd ?_)|(refine gT rfl ?_)|refine zG ?_|apply zA|intro h|exact zT));all_goals conv=>whnf
 all_goals first
  |refine fin_t hK ?_
  |refine fin_f hK ?_
  |refine fin_s hK ?_
 all_goals
  unfold smB
  simp_all[sEq]
 all_goals omega
structure Bnd (i:Nt):Prop where
 g:i.grps.length<=999
 s:i.svcs.length<=999
 w:i.wins.length<=999
 t:i.sts.length<=999
 p:i.pubs.length<=999
 h:i.hids.length<=999
 gi:∀x,x∈i.grps->x.items.length<=999
 si:∀x,x∈i.svcs->x.items.length<=999
 wi:∀x,x∈i.wins->x.act.length<=4000
 its:itsN i.grps<=70
 sits:itsN i.svcs<=70000
theorem ckFind1(d:Df)(s:ByteArray){K:KT}(hK:K (.sb (sEq d.name s)) []):AC 294 [encDf d,.fp [.v (.string s)]] [] K:=by
 refine ofiFind1 rfl rfl ?_
 (repeat' ((conv=>whnf);first|refine zG ?_|apply zA|intro h|exact zT));all_goals conv=>whnf
 exact hK
theorem cixD(l:List Df)(f:FuncId)(cs:List AV)(p:Df->Bool)(hF:∀(x:Df) (K:AV->List Vm.Obj->Prop),K (.sb (p x)) []->AC f [encDf x,.fp cs] [] K)(hl:l.length<1000000){K:KT}(hK:K (.v (.int .i64 (firstIx p l))) []):
  AC 293 [.lst (l.map encDf),.fn (.func f) [] [.fp cs]] [] K:=by
 refine ofwIxD rfl rfl ?_
 (repeat' ((conv=>whnf);first|refine zG ?_|apply zA|intro h|exact zT));all_goals conv=>whnf
 refine gL Nat (fun k=>⟨0,[],[(0,.lst (l.map encDf)),(1,.fn (.func f) [] [.fp cs]),(7,.v (.int .i64 (l.map encDf).length)),(8,.v (.int .i64 k))]⟩) (fun k=>k<=l.length/\∀(i:Nat) y,i<k->l[i]? =some y->p y=false) (fun k=>l.length-k) 0 ⟨aL _,fun i y hi=>absurd hi (aY _)⟩ ?_ ?_
 ·(exact leA)
 intro k ⟨hk,hinv⟩
 rcases aD k l.length with hkl|hkl
 ·obtain⟨r,hr⟩:=gex hkl
  (repeat' ((conv=>whnf);first|(with_reducible first|refine hJ hkl ?_|refine gZ hr ?_|refine hF r _ ?_)|refine zG ?_|apply zA|intro h|exact zT));all_goals conv=>whnf
  ·rw[firstIx_at hr h hinv]at hK;exact hK
  ·refine⟨k+1,⟨by omega,before_succ hr h hinv⟩,by omega,?_⟩
   rw[aO,aN]
   (exact leA)
 ·(repeat' ((conv=>whnf);first|refine zG ?_|apply zA|intro h|exact zT));all_goals conv=>whnf
  rw[firstIx_none (iB hkl hinv)]at hK
  exact hK
theorem ckFind(l:List Df)(s:ByteArray)(hl:l.length<1000000){K:KT}(hK:K (.v (.int .i64 (dfIx l s))) []):AC 247 [.lst (l.map encDf),.v (.string s)] [] K:=by
 have hc:∀{K:KT},K (.v (.int .i64 (dfIx l s))) []->AC 293 [.lst (l.map encDf),.fn (.func 294) [] [.fp [.v (.string s)]]] [] K:=fun h=>cixD l _ _ (fun d=>sEq d.name s) (fun x K h=>ckFind1 x s h) hl h
 refine ofiFind rfl rfl ?_
 (repeat' ((conv=>whnf);first|(with_reducible refine hc ?_)|refine zG ?_|apply zA|intro h|exact zT));all_goals conv=>whnf
 exact hK
theorem ckWnd1(d:Wn)(s:ByteArray){K:KT}(hK:K (.sb (sEq d.name s)) []):AC 250 [encWn d,.fp [.v (.string s)]] [] K:=by
 refine ofiWnd1 rfl rfl ?_
 (repeat' ((conv=>whnf);first|refine zG ?_|apply zA|intro h|exact zT));all_goals conv=>whnf
 exact hK
theorem cixW(l:List Wn)(f:FuncId)(cs:List AV)(p:Wn->Bool)(hF:∀(x:Wn) (K:AV->List Vm.Obj->Prop),K (.sb (p x)) []->AC f [encWn x,.fp cs] [] K)(hl:l.length<1000000){K:KT}(hK:K (.v (.int .i64 (firstIx p l))) []):
  AC 180 [.lst (l.map encWn),.fn (.func f) [] [.fp cs]] [] K:=by
 refine ofiIxW rfl rfl ?_
 (repeat' ((conv=>whnf);first|refine zG ?_|apply zA|intro h|exact zT));all_goals conv=>whnf
 refine gL Nat (fun k=>⟨0,[],[(0,.lst (l.map encWn)),(1,.fn (.func f) [] [.fp cs]),(7,.v (.int .i64 (l.map encWn).length)),(8,.v (.int .i64 k))]⟩) (fun k=>k<=l.length/\∀(i:Nat) y,i<k->l[i]? =some y->p y=false) (fun k=>l.length-k) 0 ⟨aL _,fun i y hi=>absurd hi (aY _)⟩ ?_ ?_
 ·(exact leA)
 intro k ⟨hk,hinv⟩
 rcases aD k l.length with hkl|hkl
 ·obtain⟨r,hr⟩:=gex hkl
  (repeat' ((conv=>whnf);first|(with_reducible first|refine hJ hkl ?_|refine gZ hr ?_|refine hF r _ ?_)|refine zG ?_|apply zA|intro h|exact zT));all_goals conv=>whnf
  ·rw[firstIx_at hr h hinv]at hK;exact hK
  ·refine⟨k+1,⟨by omega,before_succ hr h hinv⟩,by omega,?_⟩
   rw[aO,aN]
   (exact leA)
 ·(repeat' ((conv=>whnf);first|refine zG ?_|apply zA|intro h|exact zT));all_goals conv=>whnf
  rw[firstIx_none (iB hkl hinv)]at hK
  exact hK
theorem ckWnd(l:List Wn)(s:ByteArray)(hl:l.length<1000000){K:KT}(hK:K (.v (.int .i64 (wnIx l s))) []):AC 175 [.lst (l.map encWn),.v (.string s)] [] K:=by
 have hc:∀{K:KT},K (.v (.int .i64 (wnIx l s))) []->AC 180 [.lst (l.map encWn),.fn (.func 250) [] [.fp [.v (.string s)]]] [] K:=fun h=>cixW l _ _ (fun d=>sEq d.name s) (fun x K h=>ckWnd1 x s h) hl h
 refine ofiWnd rfl rfl ?_
 (repeat' ((conv=>whnf);first|(with_reducible refine hc ?_)|refine zG ?_|apply zA|intro h|exact zT));all_goals conv=>whnf
 exact hK
theorem ckDefs(l:List Df)(v:Bool)(hl:l.length<=999)(hi:∀x,x∈l->x.items.length<=999){K:KT}(hK:K (.sb (dfsB l (!v))) []):AC 173 [.lst (l.map encDf),.sb v] [] K:=by
 refine gO (ofiDefs rfl rfl ?_)
 (repeat' ((conv=>whnf);first|refine zG ?_|apply zA|intro h|exact zT));all_goals conv=>whnf
 refine gL Nat (fun i=>⟨0,[],[(0,.lst (l.map encDf)),(1,.sb v),(9,.lst (l.map encDf)),(10,.v (.int .i64 (l.map encDf).length)),(11,.v (.int .i64 i))]⟩) (fun i=>i<=l.length/\∀(j:Nat) d,j<i->l[j]? =some d->DfOk l (!v) j d) (fun i=>l.length-i) 0 ⟨aL _,fun i y hi=>absurd hi (aY _)⟩ ?_ ?_
 ·(exact leA)
 intro i ⟨hil0,hinv⟩
 rcases aD i l.length with hil|hil
 ·obtain⟨x,hx⟩:=gex hil
  have hxi:=hi x (aG hx)
  have hno:(DfOk l (!v) i x->False)->dfsB l (!v)=false:=fun h=>dfsB_false fun hn=>h (hn.all i x hx)
  (repeat' ((conv=>whnf);first|(with_reducible first|refine hJ hil ?_|refine gZ hx ?_)|refine zG ?_|apply zA|intro h|exact zT));all_goals conv=>whnf
  refine gU Unit (fun _=>⟨1,[(0,.box [.v (.string x.name),.lst (x.items.map encIt)])],[(0,.lst (l.map encDf)),(1,.sb v),(5,.v (.int .i64 i)),(6,.op 0 0),(9,.lst (l.map encDf)),(10,.v (.int .i64 (l.map encDf).length)),(11,.v (.int .i64 i))]⟩) (fun _=>nameB x.name=true/\1<=x.items.length/\x.items.length<=16/\dfIx l x.name=i) ?_ ?_
  ·(repeat' ((conv=>whnf);first|(with_reducible first|refine csName _ ?_|refine ckFind l _ zo ?_)|refine zG ?_|apply zA|intro h|exact zT));all_goals conv=>whnf
   all_goals first
    |(refine⟨(),⟨by with_reducible assumption,by simp only[aA]at*;omega,by simp only[aA]at*;omega,by with_reducible assumption⟩,?_⟩
      (exact leA)
      done)
    |(refine fin_f hK (hno fun hn=>?_)
      have n1:=hn.name;have n2:=hn.first;have n3:=hn.lo;have n4:=hn.hi
      (try simp only[aA]at*)
      first|omega|simp_all)
  rintro⟨⟩ ⟨h1,h2,h3,h4⟩
  (repeat' ((conv=>whnf);first|refine zG ?_|apply zA|intro h|exact zT));all_goals conv=>whnf
  refine gL Nat (fun k=>⟨1,[],[(0,.lst (l.map encDf)),(1,.sb v),(9,.lst (l.map encDf)),(10,.v (.int .i64 (l.map encDf).length)),(11,.v (.int .i64 i)),(41,.lst (x.items.map encIt)),(42,.v (.int .i64 (x.items.map encIt).length)),(43,.v (.int .i64 k))]⟩) (fun k=>k<=x.items.length/\∀(j:Nat) y,j<k->x.items[j]? =some y->itB y (!v)=true) (fun k=>x.items.length-k) 0 ⟨aL _,fun i y hi=>absurd hi (aY _)⟩ ?_ ?_
  ·(exact leA)
  intro k ⟨hk0,hkv⟩
  rcases aD k x.items.length with hkl|hkl
  ·obtain⟨y,hy⟩:=gex hkl
   (repeat' ((conv=>whnf);first|(with_reducible first|refine hJ hkl ?_|refine gZ hy ?_|refine ckItem y v ?_)|refine zG ?_|apply zA|intro h|exact zT));all_goals conv=>whnf
   ·refine⟨k+1,⟨hkl,iC hy h hkv⟩,by omega,?_⟩
    rw[aO,aN]
    (exact leA)
   ·refine fin_f hK (hno fun hn=>?_)
    rw[hn.all y (aG hy)]at h;cases h
  ·(repeat' ((conv=>whnf);first|refine zG ?_|apply zA|intro h|exact zT));all_goals conv=>whnf
   have hall:=iB hkl hkv
   refine⟨i+1,⟨hil,iC hx ⟨h1,h4,h2,h3,fun y hy=>?_⟩ hinv⟩,by omega,?_⟩
   ·obtain⟨j,hj⟩:=bI.1 hy
    exact hall j y hj
   ·rw[aO,aN]
    (exact leA)
 ·(repeat' ((conv=>whnf);first|refine zG ?_|apply zA|intro h|exact zT));all_goals conv=>whnf
  refine fin_s hK ?_
  have hall:=iB hil hinv
  rw[bD,dfsB_iff,aI,aA]
  exact⟨fun h=>by have:=h.len;omega,fun h=>⟨by omega,hall⟩⟩
theorem ckDefsV(l:List Df)(v:Bool)(hl:l.length<=999)(hi:∀x,x∈l->x.items.length<=999){K:KT}(hK:K (.sb (dfsB l (!v))) []):AC 173 [.lst (l.map encDf),.v (.bool v)] [] K:=
 ACall.args (ys:=[.lst (l.map encDf),.sb v]) ⟨Weak.refl,Weak.bool,trivial⟩ (ckDefs l v hl hi hK)
theorem ckPort(n:Int){K:KT}(hK:K (.sb (ptB n)) []):AC 176 [.v (.int .i64 n)] [] K:=by
 refine gO (ofiVal1 rfl rfl ?_)
 (repeat' ((conv=>whnf);first|refine zG ?_|apply zA|intro h|exact zT));all_goals conv=>whnf
 ·exact fin_s hK (by unfold ptB;simp_all)
 ·exact fin_f hK (by unfold ptB;rw[decide_eq_false zo];rfl)
theorem ckNoSm(x:Sm){K:KT}(hK:K (.sb (!smB x)) []):AC 178 [encSm x] [] K:=by
 refine ofiVal2 rfl rfl ?_
 (repeat' ((conv=>whnf);first|(with_reducible refine ckSm x ?_)|refine zG ?_|apply zA|intro h|exact zT));all_goals conv=>whnf
 exact hK
theorem ckIxS(l:List Sm)(hl:l.length<1000000){K:KT}(hK:K (.v (.int .i64 (firstIx (fun x=> !smB x) l))) []):
  AC 251 [.lst (l.map encSm),.fn (.func 178) [] []] [] K:=by
 refine ofiIxS rfl rfl ?_
 (repeat' ((conv=>whnf);first|refine zG ?_|apply zA|intro h|exact zT));all_goals conv=>whnf
 refine gL Nat (fun k=>⟨0,[],[(0,.lst (l.map encSm)),(1,.fn (.func 178) [] []),(7,.v (.int .i64 (l.map encSm).length)),(8,.v (.int .i64 k))]⟩) (fun k=>k<=l.length/\∀(i:Nat) y,i<k->l[i]? =some y->(!smB y)=false) (fun k=>l.length-k) 0 ⟨aL _,fun i y hi=>absurd hi (aY _)⟩ ?_ ?_
 ·(exact leA)
 intro k ⟨hk,hinv⟩
 rcases aD k l.length with hkl|hkl
 ·obtain⟨r,hr⟩:=gex hkl
  (repeat' ((conv=>whnf);first|(with_reducible first|refine hJ hkl ?_|refine gZ hr ?_|refine ckNoSm r ?_)|refine zG ?_|apply zA|intro h|exact zT));all_goals conv=>whnf
  all_goals first
   |(rw[firstIx_at (p:=fun x=> !smB x) hr (by simp only[h];rfl) hinv]at hK
     exact hK)
   |(refine⟨k+1,⟨by omega,before_succ (p:=fun x=> !smB x) hr (by simp only[h];rfl) hinv⟩,by omega,?_⟩
     rw[aO,aN]
     (exact leA))
 ·(repeat' ((conv=>whnf);first|refine zG ?_|apply zA|intro h|exact zT));all_goals conv=>whnf
  rw[firstIx_none (p:=fun x=> !smB x) (iB hkl hinv)]at hK
  exact hK
theorem first_any{α:Type}(p:α->Bool)(l:List α):decide (0<=firstIx p l)=l.any p:=by
 rw[bD,aI,cI]
 unfold firstIx
 cases hf:l.findIdx? p with
 |none=>
  rw[fS]at hf
  constructor
  ·intro h;simp at h
  ·rintro⟨x,hx,hp⟩
   rw[hf x hx]at hp;cases hp
 |some n=>
  rw[dM]at hf
  obtain⟨h1,h2,_⟩:=hf
  exact⟨fun _=>⟨_,dG h1,h2⟩,fun _=>by simp only;omega⟩
theorem ckAnS(l:List Sm)(hl:l.length<1000000){K:KT}(hK:K (.sb (l.any fun x=> !smB x)) []):
  AC 177 [.lst (l.map encSm),.fn (.func 178) [] []] [] K:=by
 refine ofiAnS rfl rfl ?_
 (repeat' ((conv=>whnf);first|(with_reducible refine ckIxS l hl ?_)|refine zG ?_|apply zA|intro h|exact zT));all_goals conv=>whnf
 rw[<-first_any]at hK
 exact hK
theorem ckNt(i:Nt)(hb:Bnd i){K:KT}(hK:K (.sb (ntB i)) []):AC 96 [encNt i] [] K:=by
 have bg:=hb.g;have bs:=hb.s;have bw:=hb.w;have bt:=hb.t;have bp:=hb.p;have bh:=hb.h
 refine gO (ofiVal rfl rfl ?_)
 have hno:(NtOk i->False)->ntB i=false:=ntB_false
 (repeat' ((conv=>whnf);first|refine zG ?_|apply zA|intro h|exact zT));all_goals conv=>whnf
 refine gU Unit (fun _=>⟨1,[(0,boxNt i)],[(1,.op 0 0)]⟩) (fun _=>DfsOk i.grps true/\DfsOk i.svcs false/\i.wins.length<=32/\i.sts.length<=64/\i.pubs.length<=16/\i.hids.length<=8) ?_ ?_
 ·have hG:∀{K:KT},K (.sb (dfsB i.grps true)) []->AC 173 [.lst (i.grps.map encDf),.v (.bool false)] [] K:=fun h=>ckDefsV i.grps false bg hb.gi h
  have hS:∀{K:KT},K (.sb (dfsB i.svcs false)) []->AC 173 [.lst (i.svcs.map encDf),.v (.bool true)] [] K:=fun h=>ckDefsV i.svcs true bs hb.si h
  (repeat' ((conv=>whnf);first|(with_reducible first|refine hG ?_|refine hS ?_)|refine zG ?_|apply zA|intro h|exact zT));all_goals conv=>whnf
  all_goals first
   |(refine⟨(),⟨dfsB_iff.1 zw,dfsB_iff.1 zw,by simp only[aA]at*;omega,by simp only[aA]at*;omega,by simp only[aA]at*;omega,by simp only[aA]at*;omega⟩,?_⟩
     (exact leA)
     done)
   |(refine fin_f hK (hno fun hn=>?_)
     have n1:=hn.wl;have n2:=hn.tl;have n3:=hn.pl;have n4:=hn.hl
     (try simp only[aA]at*)
     first
      |omega
      |(rw[dfsB_true hn.g]at h;cases h;done)
      |(rw[dfsB_true hn.s]at h;cases h;done))
 rintro⟨⟩ ⟨hg,hs,h1,h2,h3,h4⟩
 (repeat' ((conv=>whnf);first|refine zG ?_|apply zA|intro h|exact zT));all_goals conv=>whnf
 refine gL Nat (fun n=>⟨1,[(0,boxNt i)],[(1,.op 0 0),(47,.lst (i.wins.map encWn)),(48,.v (.int .i64 (i.wins.map encWn).length)),(49,.v (.int .i64 n))]⟩) (fun n=>n<=i.wins.length/\∀(j:Nat) y,j<n->i.wins[j]? =some y->WnOk i.wins j y) (fun n=>i.wins.length-n) 0 ⟨aL _,fun i y hi=>absurd hi (aY _)⟩ ?_ ?_
 ·(exact leA)
 intro n ⟨hn,hwin0⟩
 rcases aD n i.wins.length with hnl|hnl
 ·obtain⟨x,hx⟩:=gex hnl
  have hxa:=hb.wi x (aG hx)
  (repeat' ((conv=>whnf);first|(with_reducible first|refine hJ hnl ?_|refine gZ hx ?_|refine ckWri _ hxa fun ss=>?_|refine csName _ ?_|refine ckWnd _ _ zo ?_)|refine zG ?_|apply zA|intro h|exact zT));all_goals conv=>whnf
  all_goals first
   |(refine⟨n+1,⟨hnl,iC hx ⟨by with_reducible assumption,by with_reducible assumption,winB_iff.1 zw⟩ hwin0⟩,by omega,?_⟩
     rw[aO,aN]
     (exact leA)
     done)
   |(refine fin_f hK (hno fun hn=>?_)
     have n1:=hn.w n x hx
     have n2:=winB_iff.2 n1.act;have n3:=n1.name;have n4:=n1.first
     first
      |exact h n4
      |(rw[n2]at h;cases h;done)
      |(rw[n3]at h;cases h;done))
 have hwin:=iB hnl hwin0
 (repeat' ((conv=>whnf);first|refine zG ?_|apply zA|intro h|exact zT));all_goals conv=>whnf
 refine gL Nat (fun n=>⟨1,[(0,boxNt i)],[(1,.op 0 0),(79,.lst (i.pubs.map encPb)),(80,.v (.int .i64 (i.pubs.map encPb).length)),(81,.v (.int .i64 n))]⟩) (fun n=>n<=i.pubs.length/\∀(j:Nat) y,j<n->i.pubs[j]? =some y->pbB y=true) (fun n=>i.pubs.length-n) 0 ⟨aL _,fun i y hi=>absurd hi (aY _)⟩ ?_ ?_
 ·(exact leA)
 intro n ⟨hn,hpub0⟩
 rcases aD n i.pubs.length with hnl|hnl
 ·obtain⟨x,hx⟩:=gex hnl
  (repeat' ((conv=>whnf);first|(with_reducible first|refine hJ hnl ?_|refine gZ hx ?_|refine ckPort _ ?_|refine csName _ ?_)|refine zG ?_|apply zA|intro h|exact zT));all_goals conv=>whnf
  all_goals first
   |(refine⟨n+1,⟨hnl,iC hx (by unfold pbB;simp_all) hpub0⟩,by omega,?_⟩
     rw[aO,aN]
     (exact leA)
     done)
   |(refine fin_f hK (hno fun hn=>?_)
     have n1:=hn.p x (aG hx)
     unfold pbB at n1
     simp_all)
 have hpub:=iB hnl hpub0
 (repeat' ((conv=>whnf);first|refine zG ?_|apply zA|intro h|exact zT));all_goals conv=>whnf
 refine gL Nat (fun n=>⟨1,[(0,boxNt i)],[(1,.op 0 0),(115,.lst (i.hids.map encHn)),(116,.v (.int .i64 (i.hids.map encHn).length)),(117,.v (.int .i64 n))]⟩) (fun n=>n<=i.hids.length/\∀(j:Nat) y,j<n->i.hids[j]? =some y->hnB y=true) (fun n=>i.hids.length-n) 0 ⟨aL _,fun i y hi=>absurd hi (aY _)⟩ ?_ ?_
 ·(exact leA)
 intro n ⟨hn,hhid0⟩
 rcases aD n i.hids.length with hnl|hnl
 ·obtain⟨x,hx⟩:=gex hnl
  (repeat' ((conv=>whnf);first|(with_reducible first|refine hJ hnl ?_|refine gZ hx ?_|refine csName _ ?_)|refine zG ?_|apply zA|intro h|exact zT));all_goals conv=>whnf
  all_goals first
   |(refine⟨n+1,⟨hnl,iC hx (by unfold hnB;simp_all) hhid0⟩,by omega,?_⟩
     rw[aO,aN]
     (exact leA)
     done)
   |(refine fin_f hK (hno fun hn=>?_)
     have n1:=hn.h x (aG hx)
     unfold hnB at n1
     simp_all
     try omega)
 have hhid:=iB hnl hhid0
 (repeat' ((conv=>whnf);first|(with_reducible refine ckAnS i.sts zo ?_)|refine zG ?_|apply zA|intro h|exact zT));all_goals conv=>whnf
 refine fin_s hK ?_
 have mem:∀{α:Type} {l:List α} {P:α->Prop},(∀(j:Nat) y,l[j]? =some y->P y)->∀x,x∈l->P x:=fun h x hx=>by
  obtain⟨j,hj⟩:=bI.1 hx
  exact h j x hj
 rw[bD,ntB_iff,dI,eN]
 constructor
 ·intro h x hx
  rw[h.t x hx];decide
 ·intro h
  exact⟨hg,hs,h1,h2,h3,h4,hwin,fun x hx=>by simpa using h x hx,mem hpub,mem hhid⟩
theorem djSm(x:Sm){K:KT}(hK:K (.sb (smB x)) []):AC 123 [encSm x] [] K:=by
 refine gO (ofj16Sm rfl rfl ?_)
 (repeat' ((conv=>whnf);first|(with_reducible refine djOpt _ ?_)|refine zG ?_|apply zA|intro h|exact zT));all_goals conv=>whnf
 all_goals first
  |refine fin_t hK ?_
  |refine fin_f hK ?_
  |refine fin_s hK ?_
 all_goals
  unfold smB
  simp_all[sEq]
 all_goals omega
theorem djDefs(l:List Df)(g:Bool)(hl:l.length<=999)(hi:∀x,x∈l->x.items.length<=999){K:KT}(hK:K (.sb (dfsB l g)) []):AC 120 [.lst (l.map encDf),.sb g] [] K:=by
 refine gO (ofj16Defs rfl rfl ?_)
 have hno:(DfsOk l g->False)->dfsB l g=false:=dfsB_false
 (repeat' ((conv=>whnf);first|refine zG ?_|apply zA|intro h|exact zT));all_goals conv=>whnf
 ·exact fin_f hK (hno fun hn=>by have:=hn.len;simp only[aA]at*;omega)
 refine gL Nat (fun i=>⟨0,[],[(0,.lst (l.map encDf)),(1,.sb g),(5,.v (.int .i64 i))]⟩) (fun i=>i<=l.length/\∀(j:Nat) d,j<i->l[j]? =some d->DfOk l g j d) (fun i=>l.length-i) 0 ⟨aL _,fun i y hi=>absurd hi (aY _)⟩ ?_ ?_
 ·(exact leA)
 intro i ⟨hil0,hinv⟩
 rcases aD i l.length with hil|hil
 ·obtain⟨x,hx⟩:=gex hil
  have hxi:=hi x (aG hx)
  have hno:(DfOk l g i x->False)->dfsB l g=false:=fun h=>dfsB_false fun hn=>h (hn.all i x hx)
  (repeat' ((conv=>whnf);first|(with_reducible first|refine hJ hil ?_|refine gZ hx ?_|refine crName _ ?_|refine djFind l _ zo ?_)|refine zG ?_|apply zA|intro h|exact zT));all_goals conv=>whnf
  all_goals first
   |(refine fin_f hK (hno fun hn=>?_)
     have n1:=hn.name;have n2:=hn.first;have n3:=hn.lo;have n4:=hn.hi
     (try simp only[aA]at*)
     first
      |omega
      |simp_all)
   |skip
  have h1:nameB x.name=true:=by with_reducible assumption
  have h2:dfIx l x.name=i:=by omega
  have h3:1<=x.items.length:=by simp only[aA]at*;omega
  have h4:x.items.length<=16:=by simp only[aA]at*;omega
  refine gL Nat (fun k=>⟨0,[],[(0,.lst (l.map encDf)),(1,.sb g),(5,.v (.int .i64 i)),(6,.v (.int .i64 k))]⟩) (fun k=>k<=x.items.length/\∀(j:Nat) y,j<k->x.items[j]? =some y->itB y g=true) (fun k=>x.items.length-k) 0 ⟨aL _,fun i y hi=>absurd hi (aY _)⟩ ?_ ?_
  ·(exact leA)
  intro k ⟨hk0,hkv⟩
  rcases aD k x.items.length with hkl|hkl
  ·obtain⟨y,hy⟩:=gex hkl
   (repeat' ((conv=>whnf);first|(with_reducible first|refine hJ hil ?_|refine gZ hx ?_|refine hJ hkl ?_|refine gZ hy ?_|refine djItem y _ ?_)|refine zG ?_|apply zA|intro h|exact zT));all_goals conv=>whnf
   all_goals first
    |(refine⟨k+1,⟨hkl,iC hy h hkv⟩,by omega,?_⟩
      rw[aO,aN]
      (exact leA)
      done)
    |(refine fin_f hK (hno fun hn=>?_)
      rw[hn.all y (aG hy)]at h;cases h)
  ·(repeat' ((conv=>whnf);first|(with_reducible first|refine hJ hil ?_|refine gZ hx ?_)|refine zG ?_|apply zA|intro h|exact zT));all_goals conv=>whnf
   have hall:=iB hkl hkv
   refine⟨i+1,⟨hil,iC hx ⟨h1,h2,h3,h4,fun y hy=>?_⟩ hinv⟩,by omega,?_⟩
   ·obtain⟨j,hj⟩:=bI.1 hy
    exact hall j y hj
   ·rw[aO,aN]
    (exact leA)
 ·(repeat' ((conv=>whnf);first|refine zG ?_|apply zA|intro h|exact zT));all_goals conv=>whnf
  refine fin_t hK (dfsB_true ⟨?_,iB hil hinv⟩)
  simp only[aA]at*
  omega
theorem djDefsV(l:List Df)(g:Bool)(hl:l.length<=999)(hi:∀x,x∈l->x.items.length<=999){K:KT}(hK:K (.sb (dfsB l g)) []):AC 120 [.lst (l.map encDf),.v (.bool g)] [] K:=
 ACall.args (ys:=[.lst (l.map encDf),.sb g]) ⟨Weak.refl,Weak.bool,trivial⟩ (djDefs l g hl hi hK)
theorem djNt(i:Nt)(hb:Bnd i){K:KT}(hK:K (.sb (ntB i)) []):AC 54 [encNt i] [] K:=by
 have bg:=hb.g;have bs:=hb.s;have bw:=hb.w;have bt:=hb.t;have bp:=hb.p;have bh:=hb.h
 refine gO (ofj16Val rfl rfl ?_)
 have hno:(NtOk i->False)->ntB i=false:=ntB_false
 have mem:∀{α:Type} {l:List α} {P:α->Prop},(∀(j:Nat) y,l[j]? =some y->P y)->∀x,x∈l->P x:=fun h x hx=>by
  obtain⟨j,hj⟩:=bI.1 hx
  exact h j x hj
 have hG:∀{K:KT},K (.sb (dfsB i.grps true)) []->AC 120 [.lst (i.grps.map encDf),.v (.bool true)] [] K:=fun h=>djDefsV i.grps true bg hb.gi h
 have hS:∀{K:KT},K (.sb (dfsB i.svcs false)) []->AC 120 [.lst (i.svcs.map encDf),.v (.bool false)] [] K:=fun h=>djDefsV i.svcs false bs hb.si h
 (repeat' ((conv=>whnf);first|(with_reducible first|refine hG ?_|refine hS ?_)|refine zG ?_|apply zA|intro h|exact zT));all_goals conv=>whnf
 all_goals first
  |(refine fin_f hK (hno fun hn=>?_)
    have n1:=hn.wl;have n2:=hn.tl;have n3:=hn.pl;have n4:=hn.hl
    (try simp only[aA]at*)
    first
     |omega
     |(rw[dfsB_true hn.g]at h;cases h;done)
     |(rw[dfsB_true hn.s]at h;cases h;done))
  |skip
 have hg:DfsOk i.grps true:=dfsB_iff.1 zw
 have hs:DfsOk i.svcs false:=dfsB_iff.1 zw
 have h1:i.wins.length<=32:=by simp only[aA]at*;omega
 have h2:i.sts.length<=64:=by simp only[aA]at*;omega
 have h3:i.pubs.length<=16:=by simp only[aA]at*;omega
 have h4:i.hids.length<=8:=by simp only[aA]at*;omega
 refine gL Nat (fun n=>⟨1,[(0,boxNt i)],[(1,.op 0 0),(3,.v (.int .i64 n))]⟩) (fun n=>n<=i.wins.length/\∀(j:Nat) y,j<n->i.wins[j]? =some y->WnOk i.wins j y) (fun n=>i.wins.length-n) 0 ⟨aL _,fun i y hi=>absurd hi (aY _)⟩ ?_ ?_
 ·(exact leA)
 intro n ⟨hn,hwin0⟩
 rcases aD n i.wins.length with hnl|hnl
 ·obtain⟨x,hx⟩:=gex hnl
  have hxa:=hb.wi x (aG hx)
  (repeat' ((conv=>whnf);first|(with_reducible first|refine hJ hnl ?_|refine gZ hx ?_|refine djWri _ hxa ?_|refine crName _ ?_|refine djFindW _ _ zo ?_)|refine zG ?_|apply zA|intro h|exact zT));all_goals conv=>whnf
  all_goals first
   |(refine⟨n+1,⟨hnl,iC hx ⟨by with_reducible assumption,by omega,winB_iff.1 zw⟩ hwin0⟩,by omega,?_⟩
     rw[aO,aN]
     (exact leA)
     done)
   |(refine fin_f hK (hno fun hn=>?_)
     have n1:=hn.w n x hx
     have n2:=winB_iff.2 n1.act;have n3:=n1.name;have n4:=n1.first
     first
      |exact h n4
      |omega
      |(rw[n2]at h;cases h;done)
      |(rw[n3]at h;cases h;done))
 have hwin:=iB hnl hwin0
 (repeat' ((conv=>whnf);first|refine zG ?_|apply zA|intro h|exact zT));all_goals conv=>whnf
 refine gL Nat (fun n=>⟨1,[(0,boxNt i)],[(1,.op 0 0),(4,.v (.int .i64 n))]⟩) (fun n=>n<=i.sts.length/\∀(j:Nat) y,j<n->i.sts[j]? =some y->smB y=true) (fun n=>i.sts.length-n) 0 ⟨aL _,fun i y hi=>absurd hi (aY _)⟩ ?_ ?_
 ·(exact leA)
 intro n ⟨hn,hst0⟩
 rcases aD n i.sts.length with hnl|hnl
 ·obtain⟨x,hx⟩:=gex hnl
  (repeat' ((conv=>whnf);first|(with_reducible first|refine hJ hnl ?_|refine gZ hx ?_|refine djSm x ?_)|refine zG ?_|apply zA|intro h|exact zT));all_goals conv=>whnf
  all_goals first
   |(refine⟨n+1,⟨hnl,iC hx h hst0⟩,by omega,?_⟩
     rw[aO,aN]
     (exact leA)
     done)
   |(refine fin_f hK (hno fun hn=>?_)
     rw[hn.t x (aG hx)]at h;cases h)
 have hst:=iB hnl hst0
 (repeat' ((conv=>whnf);first|refine zG ?_|apply zA|intro h|exact zT));all_goals conv=>whnf
 refine gL Nat (fun n=>⟨1,[(0,boxNt i)],[(1,.op 0 0),(5,.v (.int .i64 n))]⟩) (fun n=>n<=i.pubs.length/\∀(j:Nat) y,j<n->i.pubs[j]? =some y->pbB y=true) (fun n=>i.pubs.length-n) 0 ⟨aL _,fun i y hi=>absurd hi (aY _)⟩ ?_ ?_
 ·(exact leA)
 intro n ⟨hn,hpub0⟩
 rcases aD n i.pubs.length with hnl|hnl
 ·obtain⟨x,hx⟩:=gex hnl
  (repeat' ((conv=>whnf);first|(with_reducible first|refine hJ hnl ?_|refine gZ hx ?_|refine djPort _ ?_|refine crName _ ?_)|refine zG ?_|apply zA|intro h|exact zT));all_goals conv=>whnf
  all_goals first
   |(refine⟨n+1,⟨hnl,iC hx (by unfold pbB;simp_all) hpub0⟩,by omega,?_⟩
     rw[aO,aN]
     (exact leA)
     done)
   |(refine fin_f hK (hno fun hn=>?_)
     have n1:=hn.p x (aG hx)
     clear hwin hst hpub0
     unfold pbB at n1
     simp_all)
 have hpub:=iB hnl hpub0
 (repeat' ((conv=>whnf);first|refine zG ?_|apply zA|intro h|exact zT));all_goals conv=>whnf
 refine gL Nat (fun n=>⟨1,[(0,boxNt i)],[(1,.op 0 0),(7,.v (.int .i64 n))]⟩) (fun n=>n<=i.hids.length/\∀(j:Nat) y,j<n->i.hids[j]? =some y->hnB y=true) (fun n=>i.hids.length-n) 0 ⟨aL _,fun i y hi=>absurd hi (aY _)⟩ ?_ ?_
 ·(exact leA)
 intro n ⟨hn,hhid0⟩
 rcases aD n i.hids.length with hnl|hnl
 ·obtain⟨x,hx⟩:=gex hnl
  (repeat' ((conv=>whnf);first|(with_reducible first|refine hJ hnl ?_|refine gZ hx ?_|refine crName _ ?_|refine djPorts _ _ _ ?_)|refine zG ?_|apply zA|intro h|exact zT));all_goals conv=>whnf
  all_goals first
   |(refine⟨n+1,⟨hnl,iC hx (by unfold hnB;simp_all) hhid0⟩,by omega,?_⟩
     rw[aO,aN]
     (exact leA)
     done)
   |(refine fin_f hK (hno fun hn=>?_)
     have n1:=hn.h x (aG hx)
     simp only[hnB,aF]at n1
     first
      |exact h (of_decide_eq_true n1.2.2)
      |(rw[n1.2.1]at h;cases h;done)
      |(rw[n1.1]at h;cases h;done))
 have hhid:=iB hnl hhid0
 (repeat' ((conv=>whnf);first|refine zG ?_|apply zA|intro h|exact zT));all_goals conv=>whnf
 exact fin_t hK (ntB_true ⟨hg,hs,h1,h2,h3,h4,hwin,mem hst,mem hpub,mem hhid⟩)
theorem enPick(raw:List Int)(pos:Nat)(l:List Df)(hl:l.length<=1000)(hp:pos<=raw.length)(hr:raw.length<=9223372036854775807){K:KT}
  (hK:∀(s:ByteArray) (pos':Nat),(s=⟨#[]⟩\/∃d,d∈l/\s=d.name)->pos'<=raw.length->K (.v (.string s)) [tapeO raw pos']):AC 190 [.op 0 0,.lst (l.map encDf)] [tapeO raw pos] K:=by
 refine ofnPick rfl rfl ?_
 (repeat' ((conv=>whnf);first|(with_reducible first|refine nNext raw _ _ (by simp only[aA];omega) zp hr fun m1 p1 hm1 hp1=>?_|refine hJ (by simp only[aA]at*;omega) ?_|refine iA (by simp only[aA]at*;omega) fun d hd=>?_)|refine zG ?_|apply zA|intro h|exact zT));all_goals conv=>whnf
 all_goals first
  |exact hK _ _ (.inl rfl) zp
  |exact hK _ _ (.inr ⟨d,hd,rfl⟩) zp
theorem enNum(raw:List Int)(pos:Nat)(top:Int)(t0:0<=top)(t1:top<=4294967295)(hp:pos<=raw.length)(hr:raw.length<=9223372036854775807){K:KT}
  (hK:∀(a:Int) (pos':Nat),0<=a->a<=top->pos'<=raw.length->K (.v (.int .u32 a)) [tapeO raw pos']):AC 65 [.op 0 0,.v (.int .u32 top)] [tapeO raw pos] K:=by
 refine ofvNum rfl rfl ?_
 (repeat' ((conv=>whnf);first|(with_reducible first|refine nNext raw _ _ zo zp hr fun m1 p1 hm1 hp1=>?_|refine hU zo ?_|refine wr_u32_any fun r r0 r1=>?_)|refine zG ?_|apply zA|intro h|exact zT));all_goals conv=>whnf
 refine ix_all IsU32 ?_ (by simp only[aK,aP];omega) ?_
 ·simp only[fQ]
  (repeat' apply And.intro)<;>first|exact⟨_,rfl,by assumption,by assumption⟩|exact⟨_,rfl,by decide,by decide⟩|(intro _ h;cases h)
 ·rintro _ ⟨y,rfl,y0,y1⟩
  (repeat' ((conv=>whnf);first|refine zG ?_|apply zA|intro h|exact zT));all_goals conv=>whnf
  all_goals exact hK _ _ zo zo zp
theorem enRange(raw:List Int)(pos:Nat)(top:Int)(t0:0<=top)(t1:top<=4294967295)(hp:pos<=raw.length)(hr:raw.length<=9223372036854775807){K:KT}
  (hK:∀(r:Rg) (pos':Nat),r.lo<=r.hi->r.hi<=top->pos'<=raw.length->K (encR r) [tapeO raw pos']):AC 106 [.op 0 0,.v (.int .u32 top)] [tapeO raw pos] K:=by
 refine ofnRange rfl rfl ?_
 (repeat' ((conv=>whnf);first|(with_reducible refine enNum raw _ top t0 t1 zp hr fun a p2 a0 a1 hp2=>?_)|refine zG ?_|apply zA|intro h|exact zT));all_goals conv=>whnf
 all_goals exact hK ⟨_,_,by omega,by omega,by omega,by omega⟩ _ (by simp only;omega) (by simp only;omega) zp
theorem sub_okQ(n:Nat):(subL.getD n noPf).okP:=by
 have h:∀q,q∈subL->q.okP:=by decide+kernel
 rcases aD n subL.length with hn|hn
 ·rw[List.getD,aB hn];exact h _ (dG hn)
 ·rw[List.getD,bL hn];decide
theorem shr_wr{a c:Int}{K:Int->Prop}(c0:0<=c)(c1:c<32)(a0:0<=a)(a1:a<=4294967295)(hk:∀r:Int,0<=r->r<=4294967295->r%pz c=0->K r):
  Wr .u32 (a.fdiv (2^min (32-c).toNat IntKind.u32.bits)*2^min (32-c).toNat IntKind.u32.bits) K:=by
 have hb:IntKind.u32.bits=32:=rfl
 have hp:=pz_pos c
 have e:(2:Int)^min (32-c).toNat IntKind.u32.bits=pz c:=by
  rw[hb,eW zo,pz,Int.natCast_pow];rfl
 rw[e,Int.fdiv_eq_ediv_of_nonneg _ (Int.le_of_lt hp)]
 have h1:0<=a/pz c:=Int.ediv_nonneg a0 (Int.le_of_lt hp)
 have h2:a/pz c*pz c<=a:=Int.ediv_mul_le a zo
 have h3:0<=a/pz c*pz c:=Int.mul_nonneg h1 (Int.le_of_lt hp)
 exact wr_u32 rfl h3 zo (hk _ h3 zo (Int.mul_emod_left _ _))
theorem enPref(raw:List Int)(pos:Nat)(hp:pos<=raw.length)(hr:raw.length<=9223372036854775807){K:KT}
  (hK:∀(q:Pf) (pos':Nat),q.okP->pos'<=raw.length->K (encP q) [tapeO raw pos']):AC 90 [.op 0 0] [tapeO raw pos] K:=by
 refine ofnPref rfl rfl ?_
 (repeat' ((conv=>whnf);first|(with_reducible first|refine nNext raw _ _ zo zp hr fun m1 p1 hm1 hp1=>?_|refine hU zo ?_|refine cnSub _ zo ?_|refine ix_intsB [32,31,24,25,8,1,0,16,30,23] 10 0 32 rfl rfl zd zo fun c c0 c1=>?_|refine cnAddr raw _ zp hr fun a p2 a0 a1 hp2=>?_|refine shr_wr zo zo a0 a1 fun r r0 r1 r2=>?_)|refine zG ?_|apply zA|intro h|exact zT));all_goals conv=>whnf
 all_goals first
  |exact hK _ _ (sub_okQ _) zp
  |exact hK ⟨r,c,r0,r1⟩ _ ⟨c0,c1,r2⟩ zp
  |(refine hK ⟨a,c,a0,a1⟩ _ ⟨c0,c1,?_⟩ zp
    have hc:c=32:=by omega
    show a%pz c=0
    rw[hc]
    exact Int.emod_one a)
theorem opt_nil:optB ⟨#[]⟩=true:=by unfold optB;rw[sEq_data];rfl
theorem opt_nm{s:ByteArray}(h:nameB s=true):optB s=true:=by unfold optB;rw[h,Bool.or_true]
theorem nil_self:sEq ⟨#[]⟩ ⟨#[]⟩=true:=sEq_self _
theorem enPickO(raw:List Int)(pos:Nat)(l:List Df)(hn:∀d,d∈l->nameB d.name=true)(hl:l.length<=1000)(hp:pos<=raw.length)(hr:raw.length<=9223372036854775807){K:KT}
  (hK:∀(s:ByteArray) (pos':Nat),optB s=true->pos'<=raw.length->K (.v (.string s)) [tapeO raw pos']):AC 190 [.op 0 0,.lst (l.map encDf)] [tapeO raw pos] K:=
 enPick raw pos l hl hp hr fun s p h hp=>hK s p (by
  rcases h with rfl|⟨d,hd,rfl⟩
  ·exact opt_nil
  ·exact opt_nm (hn d hd)) hp
theorem sm_1{p e:Bool}{f t s a b:ByteArray}(h1:optB f=true)(h2:optB t=true)(h3:optB s=true)(h4:e=true/\optB a=true/\optB b=true\/(a=⟨#[]⟩/\b=⟨#[]⟩)):smB ⟨p,f,t,s,e,a,b,⟨#[]⟩,⟨#[]⟩,0⟩=true:=by
 have hz:=opt_nil
 have hy:=nil_self
 rcases h4 with⟨rfl,h5,h6⟩|⟨rfl,rfl⟩<;>simp_all[smB]
theorem sm_cls{x:Sm}{c:ByteArray}(h:smB x=true)(hp:x.permit=true)(hc:optB c=true):smB ⟨x.permit,x.frm,x.to,x.svc,x.exc,x.exF,x.exT,c,x.dur,x.pri⟩=true:=by
 simp only[smB,aF,bS]at h⊢
 simp_all
theorem sm_dur{x:Sm}{c:ByteArray}(h:smB x=true)(hc:optB c=true):smB ⟨x.permit,x.frm,x.to,x.svc,x.exc,x.exF,x.exT,x.cls,c,x.pri⟩=true:=by
 simp only[smB,aF,bS]at h⊢
 simp_all
theorem sm_pri{x:Sm}{c:Int}(h:smB x=true)(h0:0<=c)(h1:c<=1000):smB ⟨x.permit,x.frm,x.to,x.svc,x.exc,x.exF,x.exT,x.cls,x.dur,c⟩=true:=by
 simp only[smB,aF,bS,aI]at h⊢
 simp_all
theorem sm_exB{raw:List Int}{L:Sm×Nat->Prop}(a:Bool)(b c d:ByteArray)(e:Bool)(f g:ByteArray)(q:Nat)(hL:L (⟨a,b,c,d,e,f,g,⟨#[]⟩,⟨#[]⟩,0⟩,q))(hR:q<=raw.length)(hB:smB ⟨a,b,c,d,e,f,g,⟨#[]⟩,⟨#[]⟩,0⟩=true):∃g:Sm×Nat,(g.2<=raw.length/\smB g.1=true)/\L g:=⟨_,⟨hR,hB⟩,hL⟩
theorem enStm(raw:List Int)(pos:Nat)(t:Tp)(htd:t.devs.length<=100)(gs ss:List Df)(ws:List Wn)(sts:List Sm)(hg:gs.length<=1000)(hs:ss.length<=1000)(hw:ws.length<=1000)(hp:pos<=raw.length)(hr:raw.length<=9223372036854775807){K:KT}
  (hcl:∀d,d∈t.devs->optB d.cls=true)(hgn:∀d,d∈gs->nameB d.name=true)(hsn:∀d,d∈ss->nameB d.name=true)(hwn:∀d,d∈ws->nameB d.name=true)
  (hK:∀(s:Sm) (pos':Nat),smB s=true->pos'<=raw.length->K (encSm s) [tapeO raw pos',.arr 10 (sts.map encSm)]):
  AC 108 [.op 0 0,encT t,.agg [.lst (gs.map encDf),.lst (ss.map encDf),.lst (ws.map encWn),.os 1 10 0 sts.length,.nils,.nils]] [tapeO raw pos,.arr 10 (sts.map encSm)] K:=by
 refine ofnStm rfl rfl ?_
 (repeat' ((conv=>whnf);first|(with_reducible first|refine nNext raw _ _ zo zp hr fun m1 p1 hm1 hp1=>?_|refine enPickO raw _ gs hgn hg zp hr fun s p2 hso hp2=>?_|refine enPickO raw _ ss hsn hs zp hr fun s p2 hso hp2=>?_)|refine zG ?_|apply zA|intro h|exact zT));all_goals conv=>whnf
 all_goals
  refine gU (Sm×Nat) (fun g=>⟨6,[(0,tapeO raw g.2),(1,.arr 10 (sts.map encSm)),(2,boxT t),(3,.box [.lst (gs.map encDf),.lst (ss.map encDf),.lst (ws.map encWn),.os 1 10 0 sts.length,.nils,.nils]),(4,smBox sm0),(5,smBox g.1)],[(0,.op 0 0),(4,.op 2 0),(5,.op 3 0),(6,.op 4 0),(7,.op 5 0)]⟩) (fun g=>g.2<=raw.length/\smB g.1=true) ?_ ?_
  ·(repeat' ((conv=>whnf);first|(with_reducible first|refine nNext raw _ _ zo zp hr fun m1 p1 hm1 hp1=>?_|refine enPickO raw _ gs hgn hg zp hr fun s p2 hso hp2=>?_|refine enPickO raw _ ss hsn hs zp hr fun s p2 hso hp2=>?_)|refine zG ?_|apply zA|intro h|exact zT));all_goals conv=>whnf
   all_goals
    apply sm_exB
    ·(exact leA)
    ·with_reducible assumption
    ·exact sm_1 zw zw zw (by first|exact .inr ⟨rfl,rfl⟩|exact .inl ⟨rfl,by with_reducible assumption,by with_reducible assumption⟩)
  rintro⟨x,q⟩ ⟨hq,hx⟩
  simp only at hq hx⊢
  (repeat' ((conv=>whnf);first|refine zG ?_|apply zA|intro h|exact zT));all_goals conv=>whnf
  refine gU (Sm×Nat) (fun g=>⟨6,[(0,tapeO raw g.2),(1,.arr 10 (sts.map encSm)),(2,boxT t),(3,.box [.lst (gs.map encDf),.lst (ss.map encDf),.lst (ws.map encWn),.os 1 10 0 sts.length,.nils,.nils]),(4,smBox sm0),(5,smBox g.1)],[(0,.op 0 0),(4,.op 2 0),(5,.op 3 0),(6,.op 4 0),(7,.op 5 0)]⟩) (fun g=>g.2<=raw.length/\smB g.1=true) ?_ ?_
  ·(repeat' ((conv=>whnf);first|(with_reducible first|refine nNext raw _ _ (by(try simp only[aA]);omega) zw hr fun m1 p1 hm1 hp1=>?_|refine hJ (by simp only[aA]at*;omega) ?_|refine iA (by simp only[aA]at*;omega) fun r hrm=>?_)|refine zG ?_|apply zA|intro h|exact zT));all_goals conv=>whnf
   all_goals first
    |(refine⟨(⟨x.permit,x.frm,x.to,x.svc,x.exc,x.exF,x.exT,r.cls,x.dur,x.pri⟩,p1),⟨zw,sm_cls hx zw (hcl r zw)⟩,?_⟩
      (exact leA)
      done)
    |(refine⟨(x,p1),⟨zw,hx⟩,?_⟩
      (exact leA)
      done)
    |(refine⟨(x,q),⟨zw,hx⟩,?_⟩
      (exact leA)
      done)
  clear hq hx q x
  rintro⟨x,q⟩ ⟨hq,hx⟩
  simp only at hq hx⊢
  (repeat' ((conv=>whnf);first|refine zG ?_|apply zA|intro h|exact zT));all_goals conv=>whnf
  refine gU (Sm×Nat) (fun g=>⟨6,[(0,tapeO raw g.2),(1,.arr 10 (sts.map encSm)),(2,boxT t),(3,.box [.lst (gs.map encDf),.lst (ss.map encDf),.lst (ws.map encWn),.os 1 10 0 sts.length,.nils,.nils]),(4,smBox sm0),(5,smBox g.1)],[(0,.op 0 0),(4,.op 2 0),(5,.op 3 0),(6,.op 4 0),(7,.op 5 0)]⟩) (fun g=>g.2<=raw.length/\smB g.1=true) ?_ ?_
  ·(repeat' ((conv=>whnf);first|(with_reducible first|refine nNext raw _ _ (by(try simp only[aA]);omega) zw hr fun m1 p1 hm1 hp1=>?_|refine hJ (by simp only[aA]at*;omega) ?_|refine iA (by simp only[aA]at*;omega) fun r hrm=>?_)|refine zG ?_|apply zA|intro h|exact zT));all_goals conv=>whnf
   all_goals first
    |(refine⟨(⟨x.permit,x.frm,x.to,x.svc,x.exc,x.exF,x.exT,x.cls,r.name,x.pri⟩,p1),⟨zw,sm_dur hx (opt_nm (hwn r zw))⟩,?_⟩
      (exact leA)
      done)
    |(refine⟨(x,p1),⟨zw,hx⟩,?_⟩
      (exact leA)
      done)
    |(refine⟨(x,q),⟨zw,hx⟩,?_⟩
      (exact leA)
      done)
  clear hq hx q x
  rintro⟨x,q⟩ ⟨hq,hx⟩
  simp only at hq hx⊢
  (repeat' ((conv=>whnf);first|(with_reducible first|refine nNext raw _ _ zo zw hr fun m1 p1 hm1 hp1=>?_|refine hU zo ?_|refine ix_ints [0,0,1,5,1000] 5 rfl rfl zo fun c hc=>?_)|refine zG ?_|apply zA|intro h|exact zT));all_goals conv=>whnf
  have hc2:0<=c/\c<=1000:=(show ∀c:Int,c∈[0,0,1,5,1000]->0<=c/\c<=1000 by decide) c hc
  exact hK ⟨x.permit,x.frm,x.to,x.svc,x.exc,x.exF,x.exT,x.cls,x.dur,c⟩ _ (sm_pri hx hc2.1 hc2.2) zw
end Go.Proofs.YtbdikofefjljoaaGreatDoor
