/- Lemmas. -/
import Derived.Test.YtgicddadddhonaaGreatDoorM28
set_option linter.unusedVariables false
set_option linter.unusedSimpArgs false
set_option maxRecDepth 100000
set_option maxHeartbeats 4000000
namespace Go.Proofs.YtgicddadddhonaaGreatDoor
open Go Go.Vm
theorem aRO(n:Int){K:KT}(hK:∀s:ByteArray,s.size<=2->K (.v (.string s)) []):AC 306 [.v (.int .i64 n)] [] K:=by
 refine aPn rfl rfl ?_;(repeat' ((conv=>whnf);first|(with_reducible first|refine Ob.intro zd ?_|refine xE fun r=>?_)|(refine iT (by rfl) ?_)|refine zG ?_|apply zA|intro h|exact zT));all_goals conv=>whnf
 exact hK _ (by rw[strOfNums_size];simp)
theorem aLw(n:Int){K:KT}(hK:∀s:ByteArray,s.size<=5->K (.v (.string s)) []):AC 289 [.v (.int .i64 n)] [] K:=by
 have z1:(⟨#[58]⟩:ByteArray).size=1:=rfl;refine aIb rfl rfl ?_;(repeat' ((conv=>whnf);first|(with_reducible first|refine Ob.intro zd ?_|refine xE fun r=>?_|refine aRO _ fun s hs=>?_|refine Ob.intro (by(try simp only[ByteArray.size_append]);omega) ?_)|refine zG ?_|apply zA|intro h|exact zT));all_goals conv=>whnf
 exact hK _ (by simp only[ByteArray.size_append];omega)
theorem aLr(l:List Rg)(hl:l.length<=4000){K:KT}(hK:∀ss:List ByteArray,ss.length=I6 l->ss.length<=300000->K (.lst (ss.map mV)) []):AC 251 [iR l] [] K:=by
 refine hJ (aHL rfl rfl ?_);(repeat' ((conv=>whnf);first|(with_reducible refine c28 l 10079 zo fun s hs=>?_)|(refine iT (by rfl) ?_)|refine zG ?_|apply zA|intro h|exact zT));all_goals conv=>whnf
 all_goals first
  |exact⟨_,hZ,hK [] (by rw[I6,aF (fun hh=>by have:=hs.2 hh;simp_all)];rfl) zx⟩
  |exact⟨_,gY,hK [⟨#[110,101,118,101,114]⟩] (by
    have hl0:l=[]:=cT.1 (by simp only[aA]at*;omega);rw[I6,aH (hs.1 (by simp_all)),yV,aH hl0];rfl) zx⟩
  |skip
 have hv:Canon l/\∀r,r∈l->r.hi<=10079:=hs.1 (by simp_all);have hne:l≠[]:=fun e=>by subst e;simp_all
 rw[I6,aH hv,yV,aF hne]at hK;refine gV (Nat×List ByteArray) (fun g=>⟨1,[(0,.arr 1 (g.2.map mV))],[(0,iR l),(3,.os 0 1 0 g.2.length),(16,.agg (dayL.map mV)),(17,.v (.int .i64 g.1))]⟩)
  (fun g=>g.1<=7/\g.2.length<=40000*g.1/\g.2.length=3*vM l g.1-1) (fun g=>7-g.1) (0,[]) ⟨aK _,aK _,rfl⟩ ?_ ?_
 ·exact leA
 rintro⟨d,ss⟩ ⟨hd,hss,hsn⟩
 simp only at hd hss hsn⊢;rcases aD d 7 with hd7|hd7
 ·have hint:∀{K:KT},(∀out,Canon out->(∀v,has out v=(has l v&&has [mkR (1440*d) (1440*d+1439)] v))->out.length<=l.length+1->K (iR out) [])->AC 288 [iR l,.lst [encR (mkR (1440*d) (1440*d+1439))]] [] K:=fun h=>c19 l [mkR (1440*d) (1440*d+1439)] zo zx h;have m1:(mkR (1440*(d:Int)) (1440*d+1439)).lo=1440*d:=kI zo zo zo zo;have m2:(mkR (1440*(d:Int)) (1440*d+1439)).hi=1440*d+1439:=kP zo zo zo zo;have hint2:∀{K:KT},(∀out,Canon out->(∀v,has out v=(has l v&&has [mkR (1440*d) (1440*d+1439)] v))->out.length<=l.length+1->K (iR out) [])->AC 288 [iR l,.lst [.agg [.v (.int .u32 ((d:Int)*1440)),.v (.int .u32 ((d:Int)*1440+1440-1))]]] [] K:=fun h=>by
   have:=hint h;simp only[encR,m1,m2]at this;rw[show(d:Int)*1440=1440*d by omega,show 1440*(d:Int)+1440-1=1440*d+1439 by omega];exact this
  (repeat' ((conv=>whnf);first|refine zG ?_|apply zA|intro h|exact zT));all_goals conv=>whnf
  refine iD ByteArray (fun c=>⟨1,[(0,.arr 1 (ss.map mV))],[(0,iR l),(3,.os 0 1 0 ss.length),(4,.v (.int .i64 d)),(5,.v (.string c)),(16,.agg (dayL.map mV)),(17,.v (.int .i64 d))]⟩) (fun c=>c.size<=3) ?_ ?_
  ·obtain rfl|rfl|rfl|rfl|rfl|rfl|rfl:d=0\/d=1\/d=2\/d=3\/d=4\/d=5\/d=6:=by omega
   all_goals
    (repeat' ((conv=>whnf);first|(with_reducible refine iB _ rfl zd ?_)|refine zG ?_|apply zA|intro h|exact zT));all_goals conv=>whnf
    first
     |(refine⟨⟨#[109,111,110]⟩,by decide,?_⟩
       exact leA)
     |(refine⟨⟨#[116,117,101]⟩,by decide,?_⟩
       exact leA)
     |(refine⟨⟨#[119,101,100]⟩,by decide,?_⟩
       exact leA)
     |(refine⟨⟨#[116,104,117]⟩,by decide,?_⟩
       exact leA)
     |(refine⟨⟨#[102,114,105]⟩,by decide,?_⟩
       exact leA)
     |(refine⟨⟨#[115,97,116]⟩,by decide,?_⟩
       exact leA)
     |(refine⟨⟨#[115,117,110]⟩,by decide,?_⟩
       exact leA)
  intro dn hdn;(repeat' ((conv=>whnf);first|(with_reducible first|refine jO rfl zo zo ?_|refine xF rfl zo zo ?_)|(refine iT (by rfl) ?_)|(with_reducible refine hint2 fun out ho hh hn=>?_)|refine zG ?_|apply zA|intro h|exact zT));all_goals conv=>whnf
  have hday:Iy l d=out:=N8 ho fun v=>by
   rw[hh v];rw[Hz hd7]
  have hcs:=Lq l d;rw[hday]at hcs;refine gV (Nat×List ByteArray) (fun g=>⟨3,[(0,.arr 1 (g.2.map mV)),(1,.box [.v (.int .u32 ((d:Int)*1440)),.v (.int .u32 ((d:Int)*1440+1440-1))])],[(0,iR l),(3,.os 0 1 0 g.2.length),(5,.v (.string dn)),(6,.op 1 0),(16,.agg (dayL.map mV)),(17,.v (.int .i64 d)),(33,iR out),(34,.v (.int .i64 (out.map encR).length)),(35,.v (.int .i64 g.1))]⟩)
   (fun g=>g.1<=out.length/\g.2.length<=ss.length+3*g.1/\g.2.length=3*(vM l d+g.1)-1) (fun g=>out.length-g.1) (0,ss) ⟨aK _,by simp only;omega,by simp only;omega⟩ ?_ ?_
  ·exact leA
  rintro⟨i,st⟩ ⟨hi,hst,hstn⟩
  simp only at hi hst hstn⊢;rcases aD i out.length with hil|hil
  ·obtain⟨r,hr⟩:=gex hil;have hrm:=aG hr;have hle:=Qj ho hrm;have hb:∀v,r.lo<=v->v<=r.hi->1440*(d:Int)<=v/\v<=1440*d+1439:=fun v h1 h2=>by
    have h3:has out v=true:=has_iff.2 ⟨r,hrm,h1,h2⟩;rw[hh,Hz hd7]at h3;simp only[aJ,aL]at h3;exact h3.2
   have hb1:=hb r.lo (cC _) hle;have hb2:=hb r.hi hle (cC _);(repeat' ((conv=>whnf);first|(with_reducible first|refine iI hil ?_|refine iH hr ?_)|refine zG ?_|apply zA|intro h|exact zT));all_goals conv=>whnf
   refine iD (List ByteArray) (fun g=>⟨4,[(0,.arr 1 (g.map mV)),(1,.box [.v (.int .u32 ((d:Int)*1440)),.v (.int .u32 ((d:Int)*1440+1440-1))]),(3,.box [.v (.int .u32 r.lo),.v (.int .u32 r.hi)])],[(0,iR l),(3,.os 0 1 0 g.length),(5,.v (.string dn)),(6,.op 1 0),(8,.op 3 0),(16,.agg (dayL.map mV)),(17,.v (.int .i64 d)),(33,iR out),(34,.v (.int .i64 (out.map encR).length)),(35,.v (.int .i64 i))]⟩) (fun g=>g.length<=st.length+1/\g.length=3*(vM l d+i)) ?_ ?_
   ·(repeat' ((conv=>whnf);first|(refine iT (by rfl) ?_)|refine zG ?_|apply zA|intro h|exact zT));all_goals conv=>whnf
    ·refine⟨st++[⟨#[44]⟩],⟨by simp,by simp only[aC,aB,aI];omega⟩,?_⟩;simp only[aQ,aC,aR,bI,aB,aI];exact leA
    ·refine⟨st,⟨by omega,by omega⟩,?_⟩;exact leA
   rintro su ⟨hsu,hsun⟩
   have z1:(⟨#[45]⟩:ByteArray).size=1:=rfl;(repeat' ((conv=>whnf);first|(with_reducible first|refine xF rfl zo zo ?_|refine jO rfl zo zo ?_|refine aLw _ fun s hs=>?_)|(refine iT (by rfl) ?_)|(with_reducible refine Ob.intro (by(try simp only[ByteArray.size_append]);omega) ?_)|refine zG ?_|apply zA|intro h|exact zT));all_goals conv=>whnf
   rename_i q1 sA hsA;refine⟨(i+1,su++[dn,sA++⟨#[45]⟩++s]),⟨by simp only;omega,by simp only[aC,aB,aI];omega,by simp only[aC,aB,aI];omega⟩,by simp only;omega,?_⟩;simp only[aQ,aC,aR,bI,aB,aI,aN,aM];exact leA
  ·(repeat' ((conv=>whnf);first|refine zG ?_|apply zA|intro h|exact zT));all_goals conv=>whnf
   refine⟨(d+1,st),⟨by simp only;omega,by simp only;omega,by simp only;omega⟩,by simp only;omega,?_⟩;rw[show(((d+1,st):Nat×List ByteArray).1:Int)=(d:Int)+1 from by simp only;omega];exact leA
 ·(repeat' ((conv=>whnf);first|(with_reducible refine iT (aA ..) ?_)|refine zG ?_|apply zA|intro h|exact zT));all_goals conv=>whnf
  exact⟨_,gY,hK ss (by rw[hsn,show d=7 by omega]) zo⟩
theorem aRR(p:Int)(r:Rg){K:KT}(hK:K (.sb (prB p r)) []):AC 286 [.v (.int .i64 p),.agg [.v (.int .u32 r.lo),.v (.int .u32 r.hi)]] [] K:=by
 refine gZ (aPe rfl rfl ?_);have hl0:=r.l0;(repeat' ((conv=>whnf);first|(refine aBv ?_)|refine zG ?_|apply zA|intro h|exact zT));all_goals conv=>whnf
 all_goals first
  |refine kE hK ?_
  |refine iU hK ?_
  |refine kB hK ?_
 all_goals
  unfold prB;simp_all
 all_goals first
  |omega
  |(rw[aF zo,aF zo];intros;omega)
theorem aLs(x:It)(v:Bool){K:KT}(hK:K (.sb (itB x (!v))) []):AC 250 [lA x,.sb v] [] K:=by
 refine gZ (aHD rfl rfl ?_);have hs:=wV x.name;(repeat' ((conv=>whnf);first|(with_reducible first|refine vX _ ?_|refine Iq x.pf ?_|refine aRR x.proto x.ports ?_)|(refine aBu ?_)|refine zG ?_|apply zA|intro h|exact zT));all_goals conv=>whnf
 all_goals first
  |refine kE hK ?_
  |refine iU hK ?_
  |refine kB hK ?_
 all_goals
  unfold itB;simp_all[itN,itP,itS]
theorem aRQ(s:ByteArray){K:KT}(hK:K (.sb (pT s)) []):AC 255 [.v (.string s)] [] K:=by
 refine gZ (aPb rfl rfl ?_);(repeat' ((conv=>whnf);first|(with_reducible refine vX _ ?_)|refine zG ?_|apply zA|intro h|exact zT));all_goals conv=>whnf
 all_goals first
  |exact kE hK (by unfold pT sEq;simp_all)
  |exact kB hK (by unfold pT sEq;simp_all)
theorem aRT(l:List Rg)(hl:l.length<=4000){K:KT}(hK:∀ss:List ByteArray,K (.tup [.lst (ss.map mV),.sb (aAb l)]) []):AC 177 [iR l] [] K:=by
 have h1:1<=yV l\/l≠[]:=by
  by_cases h:l=[]
  ·left;rw[yV,aH h];exact aO _
  ·exact .inr h
 refine hJ (aPh rfl rfl ?_);(repeat' ((conv=>whnf);first|(with_reducible refine aLr l hl fun ss hss hsl=>?_)|refine zG ?_|apply zA|intro h|exact zT));all_goals conv=>whnf
 ·have hq2:(((ss.map mV).length:Int)+1).tdiv 3=(((ss.length+1)/3:Nat):Int):=by rw[aA,dD zo];omega
  (repeat' ((conv=>whnf);first|(with_reducible first|refine jO hq2 zo zo ?_|refine jO rfl (by(try simp only[aA]);omega) (by(try simp only[aA]);omega) ?_|refine Ob.intro zd ?_)|refine zG ?_|apply zA|intro h|exact zT));all_goals conv=>whnf
  refine⟨_,gY,?_⟩;have e:decide ((((ss.length+1)/3:Nat):Int)<=16)=aAb l:=by
   rw[bK,winB_iff,H7,aL];unfold I6 at hss;simp only[aA]at h;by_cases hv:Canon l/\∀r,r∈l->r.hi<=10079
   ·rw[aH hv]at hss;have h3:yV l=1\/yV l=3*vM l 7-1:=by
     unfold yV;split
     ·exact .inl rfl
     ·exact .inr rfl
    exact⟨fun h=>⟨hv,by omega⟩,fun h=>by omega⟩
   ·rw[aF hv]at hss;omega
  rw[e];exact hK _
 ·refine⟨_,hU gY Weak.bool,?_⟩;have e:aAb l=false:=by
   rw[bY,ne_eq,winB_iff,H7]
   rintro⟨hv,_⟩
   rw[I6,aH hv]at hss;simp only[aA]at h;have h0:yV l=0:=by omega
   rcases h1 with h1|h1
   ·omega
   ·have:=aFC hv.1 hv.2 h1;rw[yV,aF h1]at h0;omega
  rw[<-e];exact hK _
theorem aWp(x:Sm){K:KT}(hK:K (.sb (smB x)) []):AC 183 [kC x] [] K:=by
 refine gZ (aVB rfl rfl ?_);(repeat' ((conv=>whnf);first|(with_reducible first|refine Lp.times 8 ?_|refine aRQ _ ?_)|(refine kH zd ?_)|(refine iC rfl ?_)|refine zG ?_|apply zA|intro h|exact zT));all_goals conv=>whnf
 all_goals first
  |refine kE hK ?_
  |refine iU hK ?_
  |refine kB hK ?_
 all_goals
  unfold smB;simp_all[sEq]
 all_goals omega
structure Bnd (i:Nt):Prop where
 g:i.grps.length<=999
 s:i.svcs.length<=999
 w:i.wins.length<=999
 t:i.sts.length<=999
 p:i.pubs.length<=999
 h:i.hids.length<=999
 gi:∀x,x∈i.grps->x.items.length<=999
 si:∀x,x∈i.svcs->x.items.length<=999
 wi:∀x,x∈i.wins->x.act.length<=4000
 its:Hh i.grps<=70
 sits:Hh i.svcs<=70000
theorem aFf(d:Df)(s:ByteArray){K:KT}(hK:K (.sb (sEq d.name s)) []):AC 285 [iQ d,.fp [.v (.string s)]] [] K:=by
 refine aDi rfl rfl ?_;(repeat' ((conv=>whnf);first|refine zG ?_|apply zA|intro h|exact zT));all_goals conv=>whnf
 exact hK
theorem aWo(l:List Df)(f:FuncId)(cs:List AV)(p:Df->Bool)(hF:∀(x:Df) (K:AV->List Vm.Obj->Prop),K (.sb (p x)) []->AC f [iQ x,.fp cs] [] K)(hl:l.length<1000000){K:KT}(hK:K (.v (.int .i64 (jM p l))) []):
  AC 284 [.lst (l.map iQ),.fn (.func f) [] [.fp cs]] [] K:=by
 refine aDZ rfl rfl ?_;(repeat' ((conv=>whnf);first|refine zG ?_|apply zA|intro h|exact zT));all_goals conv=>whnf
 refine gV Nat (fun k=>⟨0,[],[(0,.lst (l.map iQ)),(1,.fn (.func f) [] [.fp cs]),(7,.v (.int .i64 (l.map iQ).length)),(8,.v (.int .i64 k))]⟩) (fun k=>k<=l.length/\∀(i:Nat) y,i<k->l[i]? =some y->p y=false) (fun k=>l.length-k) 0 ⟨aK _,fun i y hi=>absurd hi (bD _)⟩ ?_ ?_
 ·exact leA
 intro k ⟨hk,hinv⟩;rcases aD k l.length with hkl|hkl
 ·obtain⟨r,hr⟩:=gex hkl;(repeat' ((conv=>whnf);first|(with_reducible first|refine iI hkl ?_|refine iH hr ?_|refine hF r _ ?_)|refine zG ?_|apply zA|intro h|exact zT));all_goals conv=>whnf
  ·rw[jN hr h hinv]at hK;exact hK
  ·refine⟨k+1,⟨by omega,jJ hr h hinv⟩,by omega,?_⟩;rw[aN,aM];exact leA
 ·(repeat' ((conv=>whnf);first|refine zG ?_|apply zA|intro h|exact zT));all_goals conv=>whnf
  rw[jS (iL hkl hinv)]at hK;exact hK
theorem aLq(l:List Df)(s:ByteArray)(hl:l.length<1000000){K:KT}(hK:K (.v (.int .i64 (Fc l s))) []):AC 249 [.lst (l.map iQ),.v (.string s)] [] K:=by
 have hc:∀{K:KT},K (.v (.int .i64 (Fc l s))) []->AC 284 [.lst (l.map iQ),.fn (.func 285) [] [.fp [.v (.string s)]]] [] K:=fun h=>aWo l _ _ (fun d=>sEq d.name s) (fun x K h=>aFf x s h) hl h;refine aHC rfl rfl ?_;(repeat' ((conv=>whnf);first|(with_reducible refine hc ?_)|refine zG ?_|apply zA|intro h|exact zT));all_goals conv=>whnf
 exact hK
theorem aLx(d:Wn)(s:ByteArray){K:KT}(hK:K (.sb (sEq d.name s)) []):AC 253 [jZ d,.fp [.v (.string s)]] [] K:=by
 refine aHG rfl rfl ?_;(repeat' ((conv=>whnf);first|refine zG ?_|apply zA|intro h|exact zT));all_goals conv=>whnf
 exact hK
theorem aRM(l:List Wn)(f:FuncId)(cs:List AV)(p:Wn->Bool)(hF:∀(x:Wn) (K:AV->List Vm.Obj->Prop),K (.sb (p x)) []->AC f [jZ x,.fp cs] [] K)(hl:l.length<1000000){K:KT}(hK:K (.v (.int .i64 (jM p l))) []):
  AC 252 [.lst (l.map jZ),.fn (.func f) [] [.fp cs]] [] K:=by
 refine aPd rfl rfl ?_;(repeat' ((conv=>whnf);first|refine zG ?_|apply zA|intro h|exact zT));all_goals conv=>whnf
 refine gV Nat (fun k=>⟨0,[],[(0,.lst (l.map jZ)),(1,.fn (.func f) [] [.fp cs]),(7,.v (.int .i64 (l.map jZ).length)),(8,.v (.int .i64 k))]⟩) (fun k=>k<=l.length/\∀(i:Nat) y,i<k->l[i]? =some y->p y=false) (fun k=>l.length-k) 0 ⟨aK _,fun i y hi=>absurd hi (bD _)⟩ ?_ ?_
 ·exact leA
 intro k ⟨hk,hinv⟩;rcases aD k l.length with hkl|hkl
 ·obtain⟨r,hr⟩:=gex hkl;(repeat' ((conv=>whnf);first|(with_reducible first|refine iI hkl ?_|refine iH hr ?_|refine hF r _ ?_)|refine zG ?_|apply zA|intro h|exact zT));all_goals conv=>whnf
  ·rw[jN hr h hinv]at hK;exact hK
  ·refine⟨k+1,⟨by omega,jJ hr h hinv⟩,by omega,?_⟩;rw[aN,aM];exact leA
 ·(repeat' ((conv=>whnf);first|refine zG ?_|apply zA|intro h|exact zT));all_goals conv=>whnf
  rw[jS (iL hkl hinv)]at hK;exact hK
theorem aRS(l:List Wn)(s:ByteArray)(hl:l.length<1000000){K:KT}(hK:K (.v (.int .i64 (Vf l s))) []):AC 179 [.lst (l.map jZ),.v (.string s)] [] K:=by
 have hc:∀{K:KT},K (.v (.int .i64 (Vf l s))) []->AC 252 [.lst (l.map jZ),.fn (.func 253) [] [.fp [.v (.string s)]]] [] K:=fun h=>aRM l _ _ (fun d=>sEq d.name s) (fun x K h=>aLx x s h) hl h;refine aPg rfl rfl ?_;(repeat' ((conv=>whnf);first|(with_reducible refine hc ?_)|refine zG ?_|apply zA|intro h|exact zT));all_goals conv=>whnf
 exact hK
theorem aLp(l:List Df)(v:Bool)(hl:l.length<=999)(hi:∀x,x∈l->x.items.length<=999){K:KT}(hK:K (.sb (yQ l (!v))) []):AC 176 [.lst (l.map iQ),.sb v] [] K:=by
 refine gZ (aHB rfl rfl ?_);(repeat' ((conv=>whnf);first|refine zG ?_|apply zA|intro h|exact zT));all_goals conv=>whnf
 refine gV Nat (fun i=>⟨0,[],[(0,.lst (l.map iQ)),(1,.sb v),(9,.lst (l.map iQ)),(10,.v (.int .i64 (l.map iQ).length)),(11,.v (.int .i64 i))]⟩) (fun i=>i<=l.length/\∀(j:Nat) d,j<i->l[j]? =some d->DfOk l (!v) j d) (fun i=>l.length-i) 0 ⟨aK _,fun i y hi=>absurd hi (bD _)⟩ ?_ ?_
 ·exact leA
 intro i ⟨hil0,hinv⟩;rcases aD i l.length with hil|hil
 ·obtain⟨x,hx⟩:=gex hil;have hxi:=hi x (aG hx);have hno:(DfOk l (!v) i x->False)->yQ l (!v)=false:=fun h=>yR fun hn=>h (hn.all i x hx);(repeat' ((conv=>whnf);first|(with_reducible first|refine iI hil ?_|refine iH hx ?_)|refine zG ?_|apply zA|intro h|exact zT));all_goals conv=>whnf
  refine iD Unit (fun _=>⟨1,[(0,.box [.v (.string x.name),.lst (x.items.map lA)])],[(0,.lst (l.map iQ)),(1,.sb v),(5,.v (.int .i64 i)),(6,.op 0 0),(9,.lst (l.map iQ)),(10,.v (.int .i64 (l.map iQ).length)),(11,.v (.int .i64 i))]⟩) (fun _=>nameB x.name=true/\1<=x.items.length/\x.items.length<=16/\Fc l x.name=i) ?_ ?_
  ·(repeat' ((conv=>whnf);first|(with_reducible first|refine vX _ ?_|refine aLq l _ zo ?_)|refine zG ?_|apply zA|intro h|exact zT));all_goals conv=>whnf
   all_goals first
    |(refine⟨(),⟨by with_reducible assumption,by simp only[aA]at*;omega,by simp only[aA]at*;omega,by with_reducible assumption⟩,?_⟩
      exact leA)
    |(refine iU hK (hno fun hn=>?_)
      have n1:=hn.name;have n2:=hn.first;have n3:=hn.lo;have n4:=hn.hi
      (try simp only[aA]at*)
      first|omega|simp_all)
  rintro⟨⟩ ⟨h1,h2,h3,h4⟩
  (repeat' ((conv=>whnf);first|refine zG ?_|apply zA|intro h|exact zT));all_goals conv=>whnf
  refine gV Nat (fun k=>⟨1,[],[(0,.lst (l.map iQ)),(1,.sb v),(9,.lst (l.map iQ)),(10,.v (.int .i64 (l.map iQ).length)),(11,.v (.int .i64 i)),(41,.lst (x.items.map lA)),(42,.v (.int .i64 (x.items.map lA).length)),(43,.v (.int .i64 k))]⟩) (fun k=>k<=x.items.length/\∀(j:Nat) y,j<k->x.items[j]? =some y->itB y (!v)=true) (fun k=>x.items.length-k) 0 ⟨aK _,fun i y hi=>absurd hi (bD _)⟩ ?_ ?_
  ·exact leA
  intro k ⟨hk0,hkv⟩;rcases aD k x.items.length with hkl|hkl
  ·obtain⟨y,hy⟩:=gex hkl;(repeat' ((conv=>whnf);first|(with_reducible first|refine iI hkl ?_|refine iH hy ?_|refine aLs y v ?_)|refine zG ?_|apply zA|intro h|exact zT));all_goals conv=>whnf
   ·refine⟨k+1,⟨hkl,iM hy h hkv⟩,by omega,?_⟩;rw[aN,aM];exact leA
   ·refine iU hK (hno fun hn=>?_);rw[hn.all y (aG hy)]at h;cases h
  ·(repeat' ((conv=>whnf);first|refine zG ?_|apply zA|intro h|exact zT));all_goals conv=>whnf
   have hall:=iL hkl hkv;refine⟨i+1,⟨hil,iM hx ⟨h1,h4,h2,h3,fun y hy=>?_⟩ hinv⟩,by omega,?_⟩
   ·obtain⟨j,hj⟩:=bH.1 hy;exact hall j y hj
   ·rw[aN,aM];exact leA
 ·(repeat' ((conv=>whnf);first|refine zG ?_|apply zA|intro h|exact zT));all_goals conv=>whnf
  refine kB hK ?_;have hall:=iL hil hinv;rw[bK,dfsB_iff,aL,aA];exact⟨fun h=>by have:=h.len;omega,fun h=>⟨by omega,hall⟩⟩
theorem Vw(l:List Df)(v:Bool)(hl:l.length<=999)(hi:∀x,x∈l->x.items.length<=999){K:KT}(hK:K (.sb (yQ l (!v))) []):AC 176 [.lst (l.map iQ),.v (.bool v)] [] K:=
 ACall.args (ys:=[.lst (l.map iQ),.sb v]) ⟨Weak.refl,Weak.bool,trivial⟩ (aLp l v hl hi hK)
theorem aLv(n:Int){K:KT}(hK:K (.sb (ptB n)) []):AC 180 [.v (.int .i64 n)] [] K:=by
 refine gZ (aHE rfl rfl ?_);(repeat' ((conv=>whnf);first|refine zG ?_|apply zA|intro h|exact zT));all_goals conv=>whnf
 ·exact kB hK (by unfold ptB;simp_all)
 ·exact iU hK (by unfold ptB;rw[decide_eq_false zo];rfl)
theorem aLt(x:Sm){K:KT}(hK:K (.sb (!smB x)) []):AC 182 [kC x] [] K:=by
 refine aHF rfl rfl ?_;(repeat' ((conv=>whnf);first|(with_reducible refine aWp x ?_)|refine zG ?_|apply zA|intro h|exact zT));all_goals conv=>whnf
 exact hK
theorem aRP(l:List Sm)(hl:l.length<1000000){K:KT}(hK:K (.v (.int .i64 (jM (fun x=> !smB x) l))) []):
  AC 254 [.lst (l.map kC),.fn (.func 182) [] []] [] K:=by
 refine aPc rfl rfl ?_;(repeat' ((conv=>whnf);first|refine zG ?_|apply zA|intro h|exact zT));all_goals conv=>whnf
 refine gV Nat (fun k=>⟨0,[],[(0,.lst (l.map kC)),(1,.fn (.func 182) [] []),(7,.v (.int .i64 (l.map kC).length)),(8,.v (.int .i64 k))]⟩) (fun k=>k<=l.length/\∀(i:Nat) y,i<k->l[i]? =some y->(!smB y)=false) (fun k=>l.length-k) 0 ⟨aK _,fun i y hi=>absurd hi (bD _)⟩ ?_ ?_
 ·exact leA
 intro k ⟨hk,hinv⟩;rcases aD k l.length with hkl|hkl
 ·obtain⟨r,hr⟩:=gex hkl;(repeat' ((conv=>whnf);first|(with_reducible first|refine iI hkl ?_|refine iH hr ?_|refine aLt r ?_)|refine zG ?_|apply zA|intro h|exact zT));all_goals conv=>whnf
  all_goals first
   |(rw[jN (p:=fun x=> !smB x) hr (by simp only[h];rfl) hinv]at hK
     exact hK)
   |(refine⟨k+1,⟨by omega,jJ (p:=fun x=> !smB x) hr (by simp only[h];rfl) hinv⟩,by omega,?_⟩
     rw[aN,aM];(exact leA))
 ·(repeat' ((conv=>whnf);first|refine zG ?_|apply zA|intro h|exact zT));all_goals conv=>whnf
  rw[jS (p:=fun x=> !smB x) (iL hkl hinv)]at hK;exact hK
theorem first_any{α:Type}(p:α->Bool)(l:List α):decide (0<=jM p l)=l.any p:=by
 rw[bK,aL,bR];unfold jM;cases hf:l.findIdx? p with
 |none=>
  rw[gD]at hf;constructor
  ·intro h;simp at h
  ·rintro⟨x,hx,hp⟩
   rw[hf x hx]at hp;cases hp
 |some n=>
  rw[dS]at hf;obtain⟨h1,h2,_⟩:=hf;exact⟨fun _=>⟨_,dE h1,h2⟩,fun _=>by simp only;omega⟩
theorem aRN(l:List Sm)(hl:l.length<1000000){K:KT}(hK:K (.sb (l.any fun x=> !smB x)) []):
  AC 181 [.lst (l.map kC),.fn (.func 182) [] []] [] K:=by
 refine aPa rfl rfl ?_;(repeat' ((conv=>whnf);first|(with_reducible refine aRP l hl ?_)|refine zG ?_|apply zA|intro h|exact zT));all_goals conv=>whnf
 rw[<-first_any]at hK;exact hK
theorem aLu(i:Nt)(hb:Bnd i){K:KT}(hK:K (.sb (ntB i)) []):AC 110 [jC i] [] K:=by
 have bg:=hb.g;have bs:=hb.s;have bw:=hb.w;have bt:=hb.t;have bp:=hb.p;have bh:=hb.h;refine gZ (aPf rfl rfl ?_);have hno:(NtOk i->False)->ntB i=false:=Mh;(repeat' ((conv=>whnf);first|refine zG ?_|apply zA|intro h|exact zT));all_goals conv=>whnf
 refine iD Unit (fun _=>⟨1,[(0,lM i)],[(1,.op 0 0)]⟩) (fun _=>DfsOk i.grps true/\DfsOk i.svcs false/\i.wins.length<=32/\i.sts.length<=64/\i.pubs.length<=16/\i.hids.length<=8) ?_ ?_
 ·have hG:∀{K:KT},K (.sb (yQ i.grps true)) []->AC 176 [.lst (i.grps.map iQ),.v (.bool false)] [] K:=fun h=>Vw i.grps false bg hb.gi h;have hS:∀{K:KT},K (.sb (yQ i.svcs false)) []->AC 176 [.lst (i.svcs.map iQ),.v (.bool true)] [] K:=fun h=>Vw i.svcs true bs hb.si h;(repeat' ((conv=>whnf);first|(with_reducible first|refine hG ?_|refine hS ?_)|refine zG ?_|apply zA|intro h|exact zT));all_goals conv=>whnf
  all_goals first
   |(refine⟨(),⟨dfsB_iff.1 zw,dfsB_iff.1 zw,by simp only[aA]at*;omega,by simp only[aA]at*;omega,by simp only[aA]at*;omega,by simp only[aA]at*;omega⟩,?_⟩
     exact leA)
   |(refine iU hK (hno fun hn=>?_)
     have n1:=hn.wl;have n2:=hn.tl;have n3:=hn.pl;have n4:=hn.hl;(try simp only[aA]at*)
     first
      |omega
      |(rw[tX hn.g]at h;cases h;done)
      |(rw[tX hn.s]at h;cases h;done))
 rintro⟨⟩ ⟨hg,hs,h1,h2,h3,h4⟩
 (repeat' ((conv=>whnf);first|refine zG ?_|apply zA|intro h|exact zT));all_goals conv=>whnf
 refine gV Nat (fun n=>⟨1,[(0,lM i)],[(1,.op 0 0),(47,.lst (i.wins.map jZ)),(48,.v (.int .i64 (i.wins.map jZ).length)),(49,.v (.int .i64 n))]⟩) (fun n=>n<=i.wins.length/\∀(j:Nat) y,j<n->i.wins[j]? =some y->WnOk i.wins j y) (fun n=>i.wins.length-n) 0 ⟨aK _,fun i y hi=>absurd hi (bD _)⟩ ?_ ?_
 ·exact leA
 intro n ⟨hn,hwin0⟩;rcases aD n i.wins.length with hnl|hnl
 ·obtain⟨x,hx⟩:=gex hnl;have hxa:=hb.wi x (aG hx);(repeat' ((conv=>whnf);first|(with_reducible first|refine iI hnl ?_|refine iH hx ?_|refine aRT _ hxa fun ss=>?_|refine vX _ ?_|refine aRS _ _ zo ?_)|refine zG ?_|apply zA|intro h|exact zT));all_goals conv=>whnf
  all_goals first
   |(refine⟨n+1,⟨hnl,iM hx ⟨by with_reducible assumption,by with_reducible assumption,winB_iff.1 zw⟩ hwin0⟩,by omega,?_⟩
     rw[aN,aM];exact leA)
   |(refine iU hK (hno fun hn=>?_)
     have n1:=hn.w n x hx;have n2:=winB_iff.2 n1.act;have n3:=n1.name;have n4:=n1.first
     first
      |exact h n4
      |(rw[n2]at h;cases h;done)
      |(rw[n3]at h;cases h;done))
 have hwin:=iL hnl hwin0;(repeat' ((conv=>whnf);first|refine zG ?_|apply zA|intro h|exact zT));all_goals conv=>whnf
 refine gV Nat (fun n=>⟨1,[(0,lM i)],[(1,.op 0 0),(79,.lst (i.pubs.map jU)),(80,.v (.int .i64 (i.pubs.map jU).length)),(81,.v (.int .i64 n))]⟩) (fun n=>n<=i.pubs.length/\∀(j:Nat) y,j<n->i.pubs[j]? =some y->pbB y=true) (fun n=>i.pubs.length-n) 0 ⟨aK _,fun i y hi=>absurd hi (bD _)⟩ ?_ ?_
 ·exact leA
 intro n ⟨hn,hpub0⟩;rcases aD n i.pubs.length with hnl|hnl
 ·obtain⟨x,hx⟩:=gex hnl;(repeat' ((conv=>whnf);first|(with_reducible first|refine iI hnl ?_|refine iH hx ?_|refine aLv _ ?_|refine vX _ ?_)|refine zG ?_|apply zA|intro h|exact zT));all_goals conv=>whnf
  all_goals first
   |(refine⟨n+1,⟨hnl,iM hx (by unfold pbB;simp_all) hpub0⟩,by omega,?_⟩
     rw[aN,aM];exact leA)
   |(refine iU hK (hno fun hn=>?_)
     have n1:=hn.p x (aG hx);unfold pbB at n1;simp_all)
 have hpub:=iL hnl hpub0;(repeat' ((conv=>whnf);first|refine zG ?_|apply zA|intro h|exact zT));all_goals conv=>whnf
 refine gV Nat (fun n=>⟨1,[(0,lM i)],[(1,.op 0 0),(115,.lst (i.hids.map jY)),(116,.v (.int .i64 (i.hids.map jY).length)),(117,.v (.int .i64 n))]⟩) (fun n=>n<=i.hids.length/\∀(j:Nat) y,j<n->i.hids[j]? =some y->hnB y=true) (fun n=>i.hids.length-n) 0 ⟨aK _,fun i y hi=>absurd hi (bD _)⟩ ?_ ?_
 ·exact leA
 intro n ⟨hn,hhid0⟩;rcases aD n i.hids.length with hnl|hnl
 ·obtain⟨x,hx⟩:=gex hnl;(repeat' ((conv=>whnf);first|(with_reducible first|refine iI hnl ?_|refine iH hx ?_|refine vX _ ?_)|refine zG ?_|apply zA|intro h|exact zT));all_goals conv=>whnf
  all_goals first
   |(refine⟨n+1,⟨hnl,iM hx (by unfold hnB;simp_all) hhid0⟩,by omega,?_⟩
     rw[aN,aM];exact leA)
   |(refine iU hK (hno fun hn=>?_)
     have n1:=hn.h x (aG hx);unfold hnB at n1;simp_all;try omega)
 have hhid:=iL hnl hhid0;(repeat' ((conv=>whnf);first|(with_reducible refine aRN i.sts zo ?_)|refine zG ?_|apply zA|intro h|exact zT));all_goals conv=>whnf
 refine kB hK ?_;have mem:∀{α:Type} {l:List α} {P:α->Prop},(∀(j:Nat) y,l[j]? =some y->P y)->∀x,x∈l->P x:=fun h x hx=>by
  obtain⟨j,hj⟩:=bH.1 hx;exact h j x hj
 rw[bK,ntB_iff,dX,fM];constructor
 ·intro h x hx;rw[h.t x hx];decide
 ·intro h;exact⟨hg,hs,h1,h2,h3,h4,hwin,fun x hx=>by simpa using h x hx,mem hpub,mem hhid⟩
theorem aWr(x:Sm){K:KT}(hK:K (.sb (smB x)) []):AC 146 [kC x] [] K:=by
 refine gZ (aHI rfl rfl ?_);(repeat' ((conv=>whnf);first|(with_reducible refine aSD _ ?_)|refine zG ?_|apply zA|intro h|exact zT));all_goals conv=>whnf
 all_goals first
  |refine kE hK ?_
  |refine iU hK ?_
  |refine kB hK ?_
 all_goals
  unfold smB;simp_all[sEq]
 all_goals omega
theorem aMf(l:List Df)(g:Bool)(hl:l.length<=999)(hi:∀x,x∈l->x.items.length<=999){K:KT}(hK:K (.sb (yQ l g)) []):AC 143 [.lst (l.map iQ),.sb g] [] K:=by
 refine gZ (Ze rfl rfl ?_);have hno:(DfsOk l g->False)->yQ l g=false:=yR;(repeat' ((conv=>whnf);first|refine zG ?_|apply zA|intro h|exact zT));all_goals conv=>whnf
 ·exact iU hK (hno fun hn=>by have:=hn.len;simp only[aA]at*;omega)
 refine gV Nat (fun i=>⟨0,[],[(0,.lst (l.map iQ)),(1,.sb g),(5,.v (.int .i64 i))]⟩) (fun i=>i<=l.length/\∀(j:Nat) d,j<i->l[j]? =some d->DfOk l g j d) (fun i=>l.length-i) 0 ⟨aK _,fun i y hi=>absurd hi (bD _)⟩ ?_ ?_
 ·exact leA
 intro i ⟨hil0,hinv⟩;rcases aD i l.length with hil|hil
 ·obtain⟨x,hx⟩:=gex hil;have hxi:=hi x (aG hx);have hno:(DfOk l g i x->False)->yQ l g=false:=fun h=>yR fun hn=>h (hn.all i x hx);(repeat' ((conv=>whnf);first|(with_reducible first|refine iI hil ?_|refine iH hx ?_|refine vW _ ?_|refine I0 l _ zo ?_)|refine zG ?_|apply zA|intro h|exact zT));all_goals conv=>whnf
  all_goals first
   |(refine iU hK (hno fun hn=>?_)
     have n1:=hn.name;have n2:=hn.first;have n3:=hn.lo;have n4:=hn.hi
     (try simp only[aA]at*)
     first
      |omega
      |simp_all)
   |skip
  have h1:nameB x.name=true:=by with_reducible assumption
  have h2:Fc l x.name=i:=by omega
  have h3:1<=x.items.length:=by simp only[aA]at*;omega
  have h4:x.items.length<=16:=by simp only[aA]at*;omega
  refine gV Nat (fun k=>⟨0,[],[(0,.lst (l.map iQ)),(1,.sb g),(5,.v (.int .i64 i)),(6,.v (.int .i64 k))]⟩) (fun k=>k<=x.items.length/\∀(j:Nat) y,j<k->x.items[j]? =some y->itB y g=true) (fun k=>x.items.length-k) 0 ⟨aK _,fun i y hi=>absurd hi (bD _)⟩ ?_ ?_
  ·exact leA
  intro k ⟨hk0,hkv⟩;rcases aD k x.items.length with hkl|hkl
  ·obtain⟨y,hy⟩:=gex hkl;(repeat' ((conv=>whnf);first|(with_reducible first|refine iI hil ?_|refine iH hx ?_|refine iI hkl ?_|refine iH hy ?_|refine aMg y _ ?_)|refine zG ?_|apply zA|intro h|exact zT));all_goals conv=>whnf
   all_goals first
    |(refine⟨k+1,⟨hkl,iM hy h hkv⟩,by omega,?_⟩
      rw[aN,aM];exact leA)
    |(refine iU hK (hno fun hn=>?_)
      rw[hn.all y (aG hy)]at h;cases h)
  ·(repeat' ((conv=>whnf);first|(with_reducible first|refine iI hil ?_|refine iH hx ?_)|refine zG ?_|apply zA|intro h|exact zT));all_goals conv=>whnf
   have hall:=iL hkl hkv;refine⟨i+1,⟨hil,iM hx ⟨h1,h2,h3,h4,fun y hy=>?_⟩ hinv⟩,by omega,?_⟩
   ·obtain⟨j,hj⟩:=bH.1 hy;exact hall j y hj
   ·rw[aN,aM];exact leA
 ·(repeat' ((conv=>whnf);first|refine zG ?_|apply zA|intro h|exact zT));all_goals conv=>whnf
  refine kE hK (tX ⟨?_,iL hil hinv⟩);simp only[aA]at*;omega
theorem V8(l:List Df)(g:Bool)(hl:l.length<=999)(hi:∀x,x∈l->x.items.length<=999){K:KT}(hK:K (.sb (yQ l g)) []):AC 143 [.lst (l.map iQ),.v (.bool g)] [] K:=
 ACall.args (ys:=[.lst (l.map iQ),.sb g]) ⟨Weak.refl,Weak.bool,trivial⟩ (aMf l g hl hi hK)
theorem sH(i:Nt)(hb:Bnd i){K:KT}(hK:K (.sb (ntB i)) []):AC 81 [jC i] [] K:=by
 have bg:=hb.g;have bs:=hb.s;have bw:=hb.w;have bt:=hb.t;have bp:=hb.p;have bh:=hb.h;refine gZ (aDk rfl rfl ?_);have hno:(NtOk i->False)->ntB i=false:=Mh;have mem:∀{α:Type} {l:List α} {P:α->Prop},(∀(j:Nat) y,l[j]? =some y->P y)->∀x,x∈l->P x:=fun h x hx=>by
  obtain⟨j,hj⟩:=bH.1 hx;exact h j x hj
 have hG:∀{K:KT},K (.sb (yQ i.grps true)) []->AC 143 [.lst (i.grps.map iQ),.v (.bool true)] [] K:=fun h=>V8 i.grps true bg hb.gi h;have hS:∀{K:KT},K (.sb (yQ i.svcs false)) []->AC 143 [.lst (i.svcs.map iQ),.v (.bool false)] [] K:=fun h=>V8 i.svcs false bs hb.si h;(repeat' ((conv=>whnf);first|(with_reducible first|refine hG ?_|refine hS ?_)|refine zG ?_|apply zA|intro h|exact zT));all_goals conv=>whnf
 all_goals first
  |(refine iU hK (hno fun hn=>?_)
    have n1:=hn.wl;have n2:=hn.tl;have n3:=hn.pl;have n4:=hn.hl;(try simp only[aA]at*)
    first
     |omega
     |(rw[tX hn.g]at h;cases h;done)
     |(rw[tX hn.s]at h;cases h;done))
  |skip
 have hg:DfsOk i.grps true:=dfsB_iff.1 zw;have hs:DfsOk i.svcs false:=dfsB_iff.1 zw;have h1:i.wins.length<=32:=by simp only[aA]at*;omega
 have h2:i.sts.length<=64:=by simp only[aA]at*;omega
 have h3:i.pubs.length<=16:=by simp only[aA]at*;omega
 have h4:i.hids.length<=8:=by simp only[aA]at*;omega
 refine gV Nat (fun n=>⟨1,[(0,lM i)],[(1,.op 0 0),(3,.v (.int .i64 n))]⟩) (fun n=>n<=i.wins.length/\∀(j:Nat) y,j<n->i.wins[j]? =some y->WnOk i.wins j y) (fun n=>i.wins.length-n) 0 ⟨aK _,fun i y hi=>absurd hi (bD _)⟩ ?_ ?_
 ·exact leA
 intro n ⟨hn,hwin0⟩;rcases aD n i.wins.length with hnl|hnl
 ·obtain⟨x,hx⟩:=gex hnl;have hxa:=hb.wi x (aG hx);(repeat' ((conv=>whnf);first|(with_reducible first|refine iI hnl ?_|refine iH hx ?_|refine aSE _ hxa ?_|refine vW _ ?_|refine V9 _ _ zo ?_)|refine zG ?_|apply zA|intro h|exact zT));all_goals conv=>whnf
  all_goals first
   |(refine⟨n+1,⟨hnl,iM hx ⟨by with_reducible assumption,by omega,winB_iff.1 zw⟩ hwin0⟩,by omega,?_⟩
     rw[aN,aM];exact leA)
   |(refine iU hK (hno fun hn=>?_)
     have n1:=hn.w n x hx;have n2:=winB_iff.2 n1.act;have n3:=n1.name;have n4:=n1.first
     first
      |exact h n4
      |omega
      |(rw[n2]at h;cases h;done)
      |(rw[n3]at h;cases h;done))
 have hwin:=iL hnl hwin0;(repeat' ((conv=>whnf);first|refine zG ?_|apply zA|intro h|exact zT));all_goals conv=>whnf
 refine gV Nat (fun n=>⟨1,[(0,lM i)],[(1,.op 0 0),(4,.v (.int .i64 n))]⟩) (fun n=>n<=i.sts.length/\∀(j:Nat) y,j<n->i.sts[j]? =some y->smB y=true) (fun n=>i.sts.length-n) 0 ⟨aK _,fun i y hi=>absurd hi (bD _)⟩ ?_ ?_
 ·exact leA
 intro n ⟨hn,hst0⟩;rcases aD n i.sts.length with hnl|hnl
 ·obtain⟨x,hx⟩:=gex hnl;(repeat' ((conv=>whnf);first|(with_reducible first|refine iI hnl ?_|refine iH hx ?_|refine aWr x ?_)|refine zG ?_|apply zA|intro h|exact zT));all_goals conv=>whnf
  all_goals first
   |(refine⟨n+1,⟨hnl,iM hx h hst0⟩,by omega,?_⟩
     rw[aN,aM];exact leA)
   |(refine iU hK (hno fun hn=>?_)
     rw[hn.t x (aG hx)]at h;cases h)
 have hst:=iL hnl hst0;(repeat' ((conv=>whnf);first|refine zG ?_|apply zA|intro h|exact zT));all_goals conv=>whnf
 refine gV Nat (fun n=>⟨1,[(0,lM i)],[(1,.op 0 0),(5,.v (.int .i64 n))]⟩) (fun n=>n<=i.pubs.length/\∀(j:Nat) y,j<n->i.pubs[j]? =some y->pbB y=true) (fun n=>i.pubs.length-n) 0 ⟨aK _,fun i y hi=>absurd hi (bD _)⟩ ?_ ?_
 ·exact leA
 intro n ⟨hn,hpub0⟩;rcases aD n i.pubs.length with hnl|hnl
 ·obtain⟨x,hx⟩:=gex hnl;(repeat' ((conv=>whnf);first|(with_reducible first|refine iI hnl ?_|refine iH hx ?_|refine aMh _ ?_|refine vW _ ?_)|refine zG ?_|apply zA|intro h|exact zT));all_goals conv=>whnf
  all_goals first
   |(refine⟨n+1,⟨hnl,iM hx (by unfold pbB;simp_all) hpub0⟩,by omega,?_⟩
     rw[aN,aM];exact leA)
   |(refine iU hK (hno fun hn=>?_)
     have n1:=hn.p x (aG hx);clear hwin hst hpub0;unfold pbB at n1;simp_all)
 have hpub:=iL hnl hpub0;(repeat' ((conv=>whnf);first|refine zG ?_|apply zA|intro h|exact zT));all_goals conv=>whnf
 refine gV Nat (fun n=>⟨1,[(0,lM i)],[(1,.op 0 0),(7,.v (.int .i64 n))]⟩) (fun n=>n<=i.hids.length/\∀(j:Nat) y,j<n->i.hids[j]? =some y->hnB y=true) (fun n=>i.hids.length-n) 0 ⟨aK _,fun i y hi=>absurd hi (bD _)⟩ ?_ ?_
 ·exact leA
 intro n ⟨hn,hhid0⟩;rcases aD n i.hids.length with hnl|hnl
 ·obtain⟨x,hx⟩:=gex hnl;(repeat' ((conv=>whnf);first|(with_reducible first|refine iI hnl ?_|refine iH hx ?_|refine vW _ ?_|refine Wa _ _ _ ?_)|refine zG ?_|apply zA|intro h|exact zT));all_goals conv=>whnf
  all_goals first
   |(refine⟨n+1,⟨hnl,iM hx (by unfold hnB;simp_all) hhid0⟩,by omega,?_⟩
     rw[aN,aM];exact leA)
   |(refine iU hK (hno fun hn=>?_)
     have n1:=hn.h x (aG hx);simp only[hnB,aJ]at n1;first
      |exact h (of_decide_eq_true n1.2.2)
      |(rw[n1.2.1]at h;cases h;done)
      |(rw[n1.1]at h;cases h;done))
 have hhid:=iL hnl hhid0;(repeat' ((conv=>whnf);first|refine zG ?_|apply zA|intro h|exact zT));all_goals conv=>whnf
 exact kE hK (Rt ⟨hg,hs,h1,h2,h3,h4,hwin,mem hst,mem hpub,mem hhid⟩)
theorem aMl(raw:List Int)(pos:Nat)(l:List Df)(hl:l.length<=1000)(hp:pos<=raw.length)(hr:raw.length<=9223372036854775807){K:KT}
  (hK:∀(s:ByteArray) (pos':Nat),(s=⟨#[]⟩\/∃d,d∈l/\s=d.name)->pos'<=raw.length->K (.v (.string s)) [iO raw pos']):AC 168 [.op 0 0,.lst (l.map iQ)] [iO raw pos] K:=by
 refine aIn rfl rfl ?_;(repeat' ((conv=>whnf);first|(with_reducible first|refine jI raw _ _ (by simp only[aA];omega) zp hr fun m1 p1 hm1 hp1=>?_|refine iI (by simp only[aA]at*;omega) ?_|refine iK (by simp only[aA]at*;omega) fun d hd=>?_)|refine zG ?_|apply zA|intro h|exact zT));all_goals conv=>whnf
 all_goals first
  |exact hK _ _ (.inl rfl) zp
  |exact hK _ _ (.inr ⟨d,hd,rfl⟩) zp
theorem sI(raw:List Int)(pos:Nat)(top:Int)(t0:0<=top)(t1:top<=4294967295)(hp:pos<=raw.length)(hr:raw.length<=9223372036854775807){K:KT}
  (hK:∀(a:Int) (pos':Nat),0<=a->a<=top->pos'<=raw.length->K (.v (.int .u32 a)) [iO raw pos']):AC 48 [.op 0 0,.v (.int .u32 top)] [iO raw pos] K:=by
 refine aDX rfl rfl ?_;(repeat' ((conv=>whnf);first|(with_reducible first|refine jI raw _ _ zo zp hr fun m1 p1 hm1 hp1=>?_|refine iJ zo ?_|refine jD fun r r0 r1=>?_)|refine zG ?_|apply zA|intro h|exact zT));all_goals conv=>whnf
 refine Ot Vk ?_ (by simp only[aB,aI];omega) ?_
 ·simp only[fX];(repeat' apply And.intro)<;>first|exact⟨_,rfl,by assumption,by assumption⟩|exact⟨_,rfl,by decide,by decide⟩|(intro _ h;cases h)
 ·rintro _ ⟨y,rfl,y0,y1⟩
  (repeat' ((conv=>whnf);first|refine zG ?_|apply zA|intro h|exact zT));all_goals conv=>whnf
  all_goals exact hK _ _ zo zo zp
theorem aFH(raw:List Int)(pos:Nat)(top:Int)(t0:0<=top)(t1:top<=4294967295)(hp:pos<=raw.length)(hr:raw.length<=9223372036854775807){K:KT}
  (hK:∀(r:Rg) (pos':Nat),r.lo<=r.hi->r.hi<=top->pos'<=raw.length->K (encR r) [iO raw pos']):AC 99 [.op 0 0,.v (.int .u32 top)] [iO raw pos] K:=by
 refine Rw rfl rfl ?_;(repeat' ((conv=>whnf);first|(with_reducible refine sI raw _ top t0 t1 zp hr fun a p2 a0 a1 hp2=>?_)|refine zG ?_|apply zA|intro h|exact zT));all_goals conv=>whnf
 all_goals exact hK ⟨_,_,by omega,by omega,by omega,by omega⟩ _ zs zs zp
theorem aJT(n:Nat):(subL.getD n uK).okP:=by
 have h:∀q,q∈subL->q.okP:=by decide+kernel
 rcases aD n subL.length with hn|hn
 ·rw[List.getD,aE hn];exact h _ (dE hn)
 ·rw[List.getD,bS hn];decide
theorem aRm{a c:Int}{K:Int->Prop}(c0:0<=c)(c1:c<32)(a0:0<=a)(a1:a<=4294967295)(hk:∀r:Int,0<=r->r<=4294967295->r%pz c=0->K r):
  Wr .u32 (a.fdiv (2^min (32-c).toNat IntKind.u32.bits)*2^min (32-c).toNat IntKind.u32.bits) K:=by
 have hb:IntKind.u32.bits=32:=rfl;have hp:=zM c;have e:(2:Int)^min (32-c).toNat IntKind.u32.bits=pz c:=by
  rw[hb,gM zo,pz,Int.natCast_pow];rfl
 rw[e,Int.fdiv_eq_ediv_of_nonneg _ (Int.le_of_lt hp)];have h1:0<=a/pz c:=Int.ediv_nonneg a0 (Int.le_of_lt hp);have h2:a/pz c*pz c<=a:=Int.ediv_mul_le a zo;have h3:0<=a/pz c*pz c:=Int.mul_nonneg h1 (Int.le_of_lt hp);exact xF rfl h3 zo (hk _ h3 zo (Int.mul_emod_left _ _))
theorem aMm(raw:List Int)(pos:Nat)(hp:pos<=raw.length)(hr:raw.length<=9223372036854775807){K:KT}
  (hK:∀(q:Pf) (pos':Nat),q.okP->pos'<=raw.length->K (lN q) [iO raw pos']):AC 73 [.op 0 0] [iO raw pos] K:=by
 refine Xf rfl rfl ?_;(repeat' ((conv=>whnf);first|(with_reducible first|refine jI raw _ _ zo zp hr fun m1 p1 hm1 hp1=>?_|refine iJ zo ?_|refine Gk _ zo ?_|refine Ju [32,31,24,25,8,1,0,16,30,23] 10 0 32 rfl rfl zd zo fun c c0 c1=>?_|refine nM raw _ zp hr fun a p2 a0 a1 hp2=>?_|refine aRm zo zo a0 a1 fun r r0 r1 r2=>?_)|refine zG ?_|apply zA|intro h|exact zT));all_goals conv=>whnf
 all_goals first
  |exact hK _ _ (aJT _) zp
  |exact hK ⟨r,c,r0,r1⟩ _ ⟨c0,c1,r2⟩ zp
  |(refine hK ⟨a,c,a0,a1⟩ _ ⟨c0,c1,?_⟩ zp
    have hc:c=32:=by omega
    show a%pz c=0;rw[hc];exact Int.emod_one a)
theorem Xi:pT ⟨#[]⟩=true:=by unfold pT;rw[nJ];rfl
theorem aEo{s:ByteArray}(h:nameB s=true):pT s=true:=by unfold pT;rw[h,Bool.or_true]
theorem J1:sEq ⟨#[]⟩ ⟨#[]⟩=true:=wV _
theorem Hv(raw:List Int)(pos:Nat)(l:List Df)(hn:∀d,d∈l->nameB d.name=true)(hl:l.length<=1000)(hp:pos<=raw.length)(hr:raw.length<=9223372036854775807){K:KT}
  (hK:∀(s:ByteArray) (pos':Nat),pT s=true->pos'<=raw.length->K (.v (.string s)) [iO raw pos']):AC 168 [.op 0 0,.lst (l.map iQ)] [iO raw pos] K:=
 aMl raw pos l hl hp hr fun s p h hp=>hK s p (by
  rcases h with rfl|⟨d,hd,rfl⟩
  ·exact Xi
  ·exact aEo (hn d hd)) hp
theorem aXc{p e:Bool}{f t s a b:ByteArray}(h1:pT f=true)(h2:pT t=true)(h3:pT s=true)(h4:e=true/\pT a=true/\pT b=true\/(a=⟨#[]⟩/\b=⟨#[]⟩)):smB ⟨p,f,t,s,e,a,b,⟨#[]⟩,⟨#[]⟩,0⟩=true:=by
 have hz:=Xi;have hy:=J1;rcases h4 with⟨rfl,h5,h6⟩|⟨rfl,rfl⟩<;>simp_all[smB]
theorem aRn{x:Sm}{c:ByteArray}(h:smB x=true)(hp:x.permit=true)(hc:pT c=true):smB ⟨x.permit,x.frm,x.to,x.svc,x.exc,x.exF,x.exT,c,x.dur,x.pri⟩=true:=by
 simp only[smB,aJ,bV]at h⊢;simp_all
theorem aRo{x:Sm}{c:ByteArray}(h:smB x=true)(hc:pT c=true):smB ⟨x.permit,x.frm,x.to,x.svc,x.exc,x.exF,x.exT,x.cls,c,x.pri⟩=true:=by
 simp only[smB,aJ,bV]at h⊢;simp_all
theorem aRq{x:Sm}{c:Int}(h:smB x=true)(h0:0<=c)(h1:c<=1000):smB ⟨x.permit,x.frm,x.to,x.svc,x.exc,x.exF,x.exT,x.cls,x.dur,c⟩=true:=by
 simp only[smB,aJ,bV,aL]at h⊢;simp_all
theorem aRp{raw:List Int}{L:Sm×Nat->Prop}(a:Bool)(b c d:ByteArray)(e:Bool)(f g:ByteArray)(q:Nat)(hL:L (⟨a,b,c,d,e,f,g,⟨#[]⟩,⟨#[]⟩,0⟩,q))(hR:q<=raw.length)(hB:smB ⟨a,b,c,d,e,f,g,⟨#[]⟩,⟨#[]⟩,0⟩=true):∃g:Sm×Nat,(g.2<=raw.length/\smB g.1=true)/\L g:=⟨_,⟨hR,hB⟩,hL⟩
theorem aSL(raw:List Int)(pos:Nat)(t:Tp)(htd:t.devs.length<=100)(gs ss:List Df)(ws:List Wn)(sts:List Sm)(hg:gs.length<=1000)(hs:ss.length<=1000)(hw:ws.length<=1000)(hp:pos<=raw.length)(hr:raw.length<=9223372036854775807){K:KT}
  (hcl:∀d,d∈t.devs->pT d.cls=true)(hgn:∀d,d∈gs->nameB d.name=true)(hsn:∀d,d∈ss->nameB d.name=true)(hwn:∀d,d∈ws->nameB d.name=true)
  (hK:∀(s:Sm) (pos':Nat),smB s=true->pos'<=raw.length->K (kC s) [iO raw pos',.arr 10 (sts.map kC)]):
  AC 101 [.op 0 0,jT t,.agg [.lst (gs.map iQ),.lst (ss.map iQ),.lst (ws.map jZ),.os 1 10 0 sts.length,.nils,.nils]] [iO raw pos,.arr 10 (sts.map kC)] K:=by
 refine aPT rfl rfl ?_;(repeat' ((conv=>whnf);first|(with_reducible first|refine jI raw _ _ zo zp hr fun m1 p1 hm1 hp1=>?_|refine Hv raw _ gs hgn hg zp hr fun s p2 hso hp2=>?_|refine Hv raw _ ss hsn hs zp hr fun s p2 hso hp2=>?_)|refine zG ?_|apply zA|intro h|exact zT));all_goals conv=>whnf
 all_goals
  refine iD (Sm×Nat) (fun g=>⟨6,[(0,iO raw g.2),(1,.arr 10 (sts.map kC)),(2,kM t),(3,.box [.lst (gs.map iQ),.lst (ss.map iQ),.lst (ws.map jZ),.os 1 10 0 sts.length,.nils,.nils]),(4,Mz sm0),(5,Mz g.1)],[(0,.op 0 0),(4,.op 2 0),(5,.op 3 0),(6,.op 4 0),(7,.op 5 0)]⟩) (fun g=>g.2<=raw.length/\smB g.1=true) ?_ ?_
  ·(repeat' ((conv=>whnf);first|(with_reducible first|refine jI raw _ _ zo zp hr fun m1 p1 hm1 hp1=>?_|refine Hv raw _ gs hgn hg zp hr fun s p2 hso hp2=>?_|refine Hv raw _ ss hsn hs zp hr fun s p2 hso hp2=>?_)|refine zG ?_|apply zA|intro h|exact zT));all_goals conv=>whnf
   all_goals
    apply aRp
    ·exact leA
    ·with_reducible assumption
    ·exact aXc zw zw zw (by first|exact .inr ⟨rfl,rfl⟩|exact .inl ⟨rfl,by with_reducible assumption,by with_reducible assumption⟩)
  rintro⟨x,q⟩ ⟨hq,hx⟩
  simp only at hq hx⊢;(repeat' ((conv=>whnf);first|refine zG ?_|apply zA|intro h|exact zT));all_goals conv=>whnf
  refine iD (Sm×Nat) (fun g=>⟨6,[(0,iO raw g.2),(1,.arr 10 (sts.map kC)),(2,kM t),(3,.box [.lst (gs.map iQ),.lst (ss.map iQ),.lst (ws.map jZ),.os 1 10 0 sts.length,.nils,.nils]),(4,Mz sm0),(5,Mz g.1)],[(0,.op 0 0),(4,.op 2 0),(5,.op 3 0),(6,.op 4 0),(7,.op 5 0)]⟩) (fun g=>g.2<=raw.length/\smB g.1=true) ?_ ?_
  ·(repeat' ((conv=>whnf);first|(with_reducible first|refine jI raw _ _ (by(try simp only[aA]);omega) zw hr fun m1 p1 hm1 hp1=>?_|refine iI (by simp only[aA]at*;omega) ?_|refine iK (by simp only[aA]at*;omega) fun r hrm=>?_)|refine zG ?_|apply zA|intro h|exact zT));all_goals conv=>whnf
   all_goals first
    |(refine⟨(⟨x.permit,x.frm,x.to,x.svc,x.exc,x.exF,x.exT,r.cls,x.dur,x.pri⟩,p1),⟨zw,aRn hx zw (hcl r zw)⟩,?_⟩
      exact leA)
    |(refine⟨(x,p1),⟨zw,hx⟩,?_⟩
      exact leA)
    |(refine⟨(x,q),⟨zw,hx⟩,?_⟩
      exact leA)
  clear hq hx q x
  rintro⟨x,q⟩ ⟨hq,hx⟩
  simp only at hq hx⊢;(repeat' ((conv=>whnf);first|refine zG ?_|apply zA|intro h|exact zT));all_goals conv=>whnf
  refine iD (Sm×Nat) (fun g=>⟨6,[(0,iO raw g.2),(1,.arr 10 (sts.map kC)),(2,kM t),(3,.box [.lst (gs.map iQ),.lst (ss.map iQ),.lst (ws.map jZ),.os 1 10 0 sts.length,.nils,.nils]),(4,Mz sm0),(5,Mz g.1)],[(0,.op 0 0),(4,.op 2 0),(5,.op 3 0),(6,.op 4 0),(7,.op 5 0)]⟩) (fun g=>g.2<=raw.length/\smB g.1=true) ?_ ?_
  ·(repeat' ((conv=>whnf);first|(with_reducible first|refine jI raw _ _ (by(try simp only[aA]);omega) zw hr fun m1 p1 hm1 hp1=>?_|refine iI (by simp only[aA]at*;omega) ?_|refine iK (by simp only[aA]at*;omega) fun r hrm=>?_)|refine zG ?_|apply zA|intro h|exact zT));all_goals conv=>whnf
   all_goals first
    |(refine⟨(⟨x.permit,x.frm,x.to,x.svc,x.exc,x.exF,x.exT,x.cls,r.name,x.pri⟩,p1),⟨zw,aRo hx (aEo (hwn r zw))⟩,?_⟩
      exact leA)
    |(refine⟨(x,p1),⟨zw,hx⟩,?_⟩
      exact leA)
    |(refine⟨(x,q),⟨zw,hx⟩,?_⟩
      exact leA)
  clear hq hx q x
  rintro⟨x,q⟩ ⟨hq,hx⟩
  simp only at hq hx⊢;(repeat' ((conv=>whnf);first|(with_reducible first|refine jI raw _ _ zo zw hr fun m1 p1 hm1 hp1=>?_|refine iJ zo ?_|refine oK [0,0,1,5,1000] 5 rfl rfl zo fun c hc=>?_)|refine zG ?_|apply zA|intro h|exact zT));all_goals conv=>whnf
  have hc2:0<=c/\c<=1000:=(show ∀c:Int,c∈[0,0,1,5,1000]->0<=c/\c<=1000 by decide) c hc;exact hK ⟨x.permit,x.frm,x.to,x.svc,x.exc,x.exF,x.exT,x.cls,x.dur,c⟩ _ (aRq hx hc2.1 hc2.2) zw
end Go.Proofs.YtgicddadddhonaaGreatDoor
