/- Lemmas. -/
import Derived.Test.YtnomkooikbhgmaaGreatDoorK37
import Derived.Test.YtnomkooikbhgmaaGreatDoorK41
import Derived.Test.YtnomkooikbhgmaaGreatDoorK47
set_option linter.unusedVariables false
set_option linter.unusedSimpArgs false
set_option maxRecDepth 100000
set_option maxHeartbeats 4000000
namespace Go.Proofs.YtnomkooikbhgmaaGreatDoor
open Go Go.Vm
def T4(g:Hd):Bool:=if g.pro=6\/g.pro=17 then true else if g.pro=1 then decide (g.dp=8)&&decide (g.sp≠8)else decide (g.sp=0)&&decide (g.dp=0)
theorem wJ{a b c d e f:Int}{g:Hd}(ho:g.Ok)(hok:(fb a b c d e f).ok)(h:(((0<=a/\a<=4294967295)/\0<=b/\b<=4294967295)/\((0<=c/\c<=4294967295)/\0<=d/\d<=4294967295)/\((0<=e/\e<=4294967295)/\0<=f/\f<=4294967295))):uU (fb a b c d e f) g=true↔(a<=g.pro/\g.pro<=b)/\(c<=g.sp/\g.sp<=d)/\e<=g.dp/\g.dp<=f:=by
 obtain⟨⟨⟨a0,a1⟩,b0,b1⟩,⟨⟨c0,c1⟩,d0,d1⟩,⟨e0,e1⟩,f0,f1⟩:=h;rw[tZ];unfold fb;simp only;rw[kC a0 a1 b0 b1,kO a0 a1 b0 b1,kC c0 c1 d0 d1,kO c0 c1 d0 d1,kC e0 e1 f0 f1,kO e0 e1 f0 f1,kC zd zd zd zd,kO zd zd zd zd];obtain⟨s0,s1,t0,t1,_⟩:=ho;constructor
 ·rintro⟨_,_,h2,h3,h4,_⟩;exact⟨h2,h3,h4⟩
 ·rintro⟨h2,h3,h4⟩;exact⟨⟨s0,s1⟩,⟨t0,t1⟩,h2,h3,h4,hok⟩
theorem aGn{g:Hd}(ho:g.Ok):(initS.any fun b=>uU b g)=T4 g:=by
 obtain⟨_,_,_,_,p0,p1,a0,a1,b0,b1⟩:=id ho;have hi:T4 g=true↔(g.pro=6\/g.pro=17)\/(g.pro=1/\g.dp=8/\g.sp≠8)\/(g.pro≠6/\g.pro≠17/\g.pro≠1/\g.sp=0/\g.dp=0):=by
  unfold T4;split
  ·rename_i h;simp[h]
  ·split
   ·rename_i h;rw[aJ,aM,aM];omega
   ·rw[aJ,aM,aM];omega
 rw[bK,hi];unfold initS;simp only[List.any_cons,List.any_nil,bR,bT,or_false];rw[wJ ho zd zd,wJ ho zd zd,wJ ho zd zd,wJ ho zd zd,wJ ho zd zd,wJ ho zd zd,wJ ho zd zd,wJ ho zd zd];omega
theorem aQo(g:Hd){K:KT}(hK:K (.sb (T4 g)) []):AC 121 [mR g] [] K:=by
 refine gP (aHr rfl rfl ?_);unfold T4 at hK;(repeat' ((conv=>whnf);first|refine zG ?_|apply zA|intro h|exact zT));all_goals conv=>whnf
 all_goals first
  |(rw[aH zo]at hK;exact jU hK rfl)
  |(rw[aF zo,aH zo]at hK
    first
     |exact iL hK (by simp_all;done)
     |exact jU hK (by simp_all;done)
     |exact jP hK (by simp_all;done))
  |(rw[aF zo,aF zo]at hK
    first
     |exact iL hK (by simp_all;done)
     |exact jU hK (by simp_all;done)
     |exact jP hK (by simp_all;done))
theorem aQp(t:Tp)(hl:t.edges.length<1000000)(g:Hd)(ho:g.Ok){K:KT}(hK:K (.sb (xD t g)) []):AC 56 [kB t,mR g] [] K:=by
 refine gP (aOr rfl rfl ?_);unfold xD at hK;rw[aGn ho]at hK;have hi:∀{K:KT},K (.sb (T4 g)) []->AC 121 [mR g] [] K:=fun h=>aQo g h;generalize T4 g=b at*;(repeat' ((conv=>whnf);first|(with_reducible first|refine aJs t g.src hl ?_|refine aJs t g.dst hl ?_|refine hi ?_)|refine zG ?_|apply zA|intro h|exact zT));all_goals conv=>whnf
 all_goals first
  |(refine jP hK ?_
    rw[decide_eq_true ⟨by omega,by omega,by omega⟩,dQ]
    done)
  |(refine iL hK ?_
    rw[decide_eq_false zo,eO]
    done)
  |(refine jP hK ?_
    rw[decide_eq_false zo,eO];simp_all
    done)
theorem aAX(l:List Rg)(hl:l.length<=4000)(m:Int){K:KT}(hK:K (.sb (uQ l m)) []):AC 134 [iH l,.v (.int .i64 m)] [] K:=by
 refine gP (aHi rfl rfl ?_);unfold uQ at hK;by_cases hm:0<=m/\m<=4294967295
 ·rw[decide_eq_true hm.1,decide_eq_true hm.2,dQ,dQ]at hK;(repeat' ((conv=>whnf);first|(with_reducible refine c34 l _ zo ?_)|refine zG ?_|apply zA|intro h|exact zT));all_goals conv=>whnf
  all_goals first
   |exact jP hK rfl
   |exact iL hK zw
   |(exfalso;omega)
 ·have e:(decide (0<=m)&&(decide (m<=4294967295)&&has l m))=false:=by
   by_cases h0:0<=m
   ·rw[decide_eq_false (show ¬m<=4294967295 by omega)];simp
   ·rw[decide_eq_false h0];simp
  (repeat' ((conv=>whnf);first|(with_reducible first|refine iU fun r r0 r1=>?_|refine c34 l _ zo ?_)|refine zG ?_|apply zA|intro h|exact zT));all_goals conv=>whnf
  all_goals first
   |exact iL hK e
   |(exfalso;omega)
theorem aRk(i:Nt)(hb:Bnd i)(n:Nat)(hn:n<i.sts.length)(m:Int){K:KT}(hK:K (.sb (sF i m n)) []):AC 64 [iS i,.v (.int .i64 n),.v (.int .i64 m)] [] K:=by
 have hw:=hb.w;obtain⟨x,hx⟩:=gex hn;have ha:sF i m n=Xj i x m:=by simp[sF,hx]
 rw[ha]at hK;unfold Xj at hK;have hse:∀s t:ByteArray,sEq s t=(s.toList==t.toList):=fun s t=>rfl;refine gP (aCo rfl rfl ?_);rcases yU (fun w:Wn=>sEq w.name x.dur) i.wins with hf|⟨k,w,hf,hk⟩
 ·have hf':E6 i.wins x.dur= -1:=hf;rw[hf']at hK;have hfw:∀{K:KT},K (.v (.int .i64 (-1))) []->AC 88 [.lst (i.wins.map jD),.v (.string x.dur)] [] K:=fun h=>Hq _ _ zo (by rw[hf'];exact h);(repeat' ((conv=>whnf);first|(with_reducible first|refine hZ hn ?_|refine hU hx ?_|refine hfw ?_)|refine zG ?_|apply zA|intro h|exact zT));all_goals conv=>whnf
  all_goals first
   |exact jP hK (by unfold sEq;simp_all)
   |exact jU hK (by unfold sEq;simp_all)
   |exact iL hK (by unfold sEq;simp_all)
 ·have hf':E6 i.wins x.dur=(k:Int):=hf;have hkl:=(aP.1 hk).1;have hwl:=hb.wi w (aI hk);rw[hf',eQ,hk]at hK;have hfw:∀{K:KT},K (.v (.int .i64 k)) []->AC 88 [.lst (i.wins.map jD),.v (.string x.dur)] [] K:=fun h=>Hq _ _ zo (by rw[hf'];exact h);have hac:∀{K:KT},K (.sb (uQ w.act m)) []->AC 134 [iH w.act,.v (.int .i64 m)] [] K:=fun h=>aAX _ hwl m h;simp only[dF,cY]at hK;generalize uQ w.act m=b at*;(repeat' ((conv=>whnf);first|(with_reducible first|refine hZ hn ?_|refine hU hx ?_|refine hfw ?_|refine hZ hkl ?_|refine hU hk ?_|refine hac ?_)|refine zG ?_|apply zA|intro h|exact zT));all_goals conv=>whnf
  all_goals first
   |exact jP hK (by unfold sEq;simp_all)
   |exact jU hK (by unfold sEq;simp_all)
   |exact iL hK (by unfold sEq;simp_all)
theorem aAU(i:Nt)(hb:Bnd i)(m:Int){K:KT}(hK:K (.lst ((zY i m).map vN)) []):AC 20 [iS i,.v (.int .i64 m)] [] K:=by
 have ht:=hb.t;refine gQ (aCp rfl rfl ?_);unfold zY at hK;by_cases hv:ntB i=true/\(0<=m/\m<10080)
 case neg=>
  rw[aF hv]at hK;(repeat' ((conv=>whnf);first|(with_reducible refine pY i hb ?_)|refine zG ?_|apply zA|intro h|exact zT));all_goals conv=>whnf
  all_goals first
   |exact⟨_,gS,hK⟩
   |(exfalso;simp_all;done)
   |(exfalso;simp_all;omega)
 rw[aH hv]at hK;have hpl:∀(c:Nat),c<=1001->(vG i m c).length<=i.sts.length:=fun c hc=>by
  have h1:=Eb (i:=i) (m:=m) (Js hv.1);have h2:∀d,c<=d->(vG i m c).length<=(vG i m d).length:=fun d=>by
   induction d with
   |zero=>
    intro h;obtain rfl:c=0:=by omega
    exact aK _
   |succ d ih=>
    intro h;rcases aC c (d+1)with h3|h3
    ·rw[L8,aD];have:=ih zo;omega
    ·obtain rfl:c=d+1:=by omega
     exact aK _
  exact bA (h2 1001 hc) h1
 (repeat' ((conv=>whnf);first|(with_reducible refine pY i hb ?_)|refine zG ?_|apply zA|intro h|exact zT));all_goals conv=>whnf
 all_goals first
  |(exfalso;simp_all;done)
  |(exfalso;simp_all;omega)
  |skip
 refine gM Nat (fun c=>⟨2,[(0,mD i),(1,.arr 1 ((vG i m c).map vN))],[(1,.v (.int .i64 m)),(2,.op 0 0),(5,.os 1 1 0 (vG i m c).length),(6,.v (.int .i64 (1000-(c:Int))))]⟩)
  (fun c=>c<=1001) (fun c=>1001-c) 0 (aO _) ?_ ?_
 ·exact leA
 intro c hc;rcases aC c 1001 with hcl|hcl
 ·have hsuc:=L8 i m c;have hl1:=hpl c hc;have hl2:=hpl (c+1) hcl;(repeat' ((conv=>whnf);first|refine zG ?_|apply zA|intro h|exact zT));all_goals conv=>whnf
  refine gM Nat (fun n=>⟨2,[(0,mD i),(1,.arr 1 ((vG i m c++rC i m (1000-(c:Int)) n).map vN))],[(1,.v (.int .i64 m)),(2,.op 0 0),(5,.os 1 1 0 (vG i m c++rC i m (1000-(c:Int)) n).length),(6,.v (.int .i64 (1000-(c:Int)))),(7,.v (.int .i64 n))]⟩)
   (fun n=>n<=i.sts.length) (fun n=>i.sts.length-n) 0 (aO _) ?_ ?_
  ·rw[show rC i m (1000-(c:Int)) 0=[]from rfl,bI];exact leA
  intro n hn;rcases aC n i.sts.length with hnl|hnl
  ·obtain⟨x,hx⟩:=gex hnl;have hpx:sV i n=x.pri:=by simp[sV,hx]
   have hps:=Uw i m (1000-(c:Int)) n;have hlen:(vG i m c++rC i m (1000-(c:Int)) n).length<=2000:=by
    have:(rC i m (1000-(c:Int)) n).length<=n:=bA (dK ..) zx;rw[aD];omega
   have hact:∀{K:KT},K (.sb (sF i m n)) []->AC 64 [iS i,.v (.int .i64 n),.v (.int .i64 m)] [] K:=fun h=>aRk i hb n hnl m h;have hnx:(vG i m c++rC i m (1000-(c:Int)) (n+1))=(vG i m c++rC i m (1000-(c:Int)) n)++(if decide (x.pri=1000-(c:Int))&&sF i m n then [n]else []):=by rw[hps,hpx,cV]
   generalize (vG i m c++rC i m (1000-(c:Int)) n)=A at*;generalize sF i m n=b at*;(repeat' ((conv=>whnf);first|(with_reducible first|refine hZ hnl ?_|refine hU hx ?_|refine hact ?_)|refine zG ?_|apply zA|intro h|exact zT));all_goals conv=>whnf
   all_goals first
    |(refine⟨n+1,hnl,by omega,?_⟩
      rw[hnx,aF (by simp_all),bI,aN n,aL];exact leA)
    |(refine⟨n+1,hnl,by omega,?_⟩
      rw[hnx,aH (by simp_all),aQ,aD,aN n,aL];exact leA)
  ·have hne:n=i.sts.length:=by omega
   subst hne;(repeat' ((conv=>whnf);first|refine zG ?_|apply zA|intro h|exact zT));all_goals conv=>whnf
   refine⟨c+1,hcl,by omega,?_⟩;rw[hsuc,show(1000:Int)-((c+1:Nat):Int)=1000-(c:Int)-1 by omega];exact leA
 ·have hce:c=1001:=by omega
  subst hce;(repeat' ((conv=>whnf);first|(with_reducible refine iP (aA ..) ?_)|refine zG ?_|apply zA|intro h|exact zT));all_goals conv=>whnf
  exact⟨_,gO,hK⟩
theorem aAT(t:Tp)(ht:t.edges.length<1000)(hd:t.devs.length<1000)(i:Nt)(hb:Bnd i)(m:Int)(g:Hd)(ho:g.Ok){K:KT}
  (hK:K (.tup [.sb (pH t i m g).1,.v (.int .i64 (pH t i m g).2)]) []):AC 17 [kB t,iS i,.v (.int .i64 m),mR g] [] K:=by
 have hKf:pH t i m g=(false,-1)->∃y,Weak (.tup [.v (.bool false),.v (.int .i64 (-1))]) y/\K y []:=fun he=>by
  rw[he]at hK;exact⟨_,gR Weak.bool gO,hK⟩
 refine gQ (aGU rfl rfl ?_);have hck:∀{K:KT},K (.v (.int .i64 (Kl t i))) []->AC 36 [kB t,iS i] [] K:=fun h=>aRh t zo zo i hb h;have hrl:∀{K:KT},K (.sb (xD t g)) []->AC 56 [kB t,mR g] [] K:=fun h=>aQp t zo g ho h;have hoc:∀{K:KT},K (.lst ((zY i m).map vN)) []->AC 20 [iS i,.v (.int .i64 m)] [] K:=fun h=>aAU i hb m h;by_cases hc:Kl t i=0/\xD t g=true
 case neg=>
  have hz:pH t i m g=(false,-1):=by
   unfold pH;split
   ·rfl
   ·rename_i h;have hp:Fu t i m=0:=Decidable.byContradiction h;obtain⟨hcn,hmm,hch⟩:=aDr hp;have hr:xD t g≠true:=fun hr=>hc ⟨by unfold Kl;rw[aH hcn,hch],hr⟩;unfold Qn;rw[aF hr]
  generalize xD t g=re at*;(repeat' ((conv=>whnf);first|(with_reducible first|refine hck ?_|refine hrl ?_)|refine zG ?_|apply zA|intro h|exact zT));all_goals conv=>whnf
  all_goals first
   |exact hKf hz
   |(exfalso;simp_all;done)
 obtain⟨hc0,hre⟩:=hc;have hcn:lT t=true/\ntB i=true:=Decidable.byContradiction fun h=>by unfold Kl at hc0;rw[aF h]at hc0;cases hc0
 have hch:Qc t i=0:=by unfold Kl at hc0;rwa[aH hcn]at hc0
 rw[hc0]at hck;rw[hre]at hrl;by_cases hmm:0<=m/\m<10080
 case neg=>
  have hz:pH t i m g=(false,-1):=by
   have:Fu t i m≠0:=by unfold Fu;rw[aH hcn,aF hmm];decide
   rw[pH,aH this]
  have ho0:zY i m=[]:=by unfold zY;rw[aF (fun h=>hmm h.2)]
  rw[ho0]at hoc;(repeat' ((conv=>whnf);first|(with_reducible first|refine hck ?_|refine hrl ?_|refine hoc ?_|refine Lp.times 1 ?_)|refine zG ?_|apply zA|intro h|exact zT));all_goals conv=>whnf
  all_goals first
   |exact hKf hz
   |(exfalso;simp_all;done)
 have hp:Fu t i m=0:=by unfold Fu;rw[aH hcn,aH hmm,hch]
 have ho1:zY i m=pM i m:=by unfold zY;rw[aH ⟨hcn.2,hmm⟩]
 rw[ho1]at hoc;have hv:pH t i m g=match Qn t i m g with
  |some n=>(Uv i n,(n:Int))
  |none=>(false,-1):=by
  rw[pH,aF zo];rfl
 rw[Qn,aH hre]at hv;have hol:(pM i m).length<=999:=bA (Eb (Js hcn.2)) hb.t;(repeat' ((conv=>whnf);first|(with_reducible first|refine hck ?_|refine hrl ?_|refine hoc ?_)|refine zG ?_|apply zA|intro h|exact zT));all_goals conv=>whnf
 all_goals first
  |(exfalso;simp_all;done)
  |skip
 refine gM Nat (fun k=>⟨3,[(0,kU t),(1,mD i),(2,.box (Ta g))],[(4,.op 0 0),(5,.op 1 0),(7,.op 2 0),(10,.lst ((pM i m).map vN)),(11,.v (.int .i64 k))]⟩) (fun k=>k<=(pM i m).length/\∀(j:Nat) n,j<k->(pM i m)[j]? =some n->Od t i (hdQ g) n=false) (fun k=>(pM i m).length-k) 0 ⟨aO _,fun j n h=>absurd h (bC _)⟩ ?_ ?_
 ·exact leA
 intro k ⟨hk,hin⟩;rcases aC k (pM i m).length with hkl|hkl
 ·obtain⟨n,hn⟩:∃n,(pM i m)[k]? =some n:=⟨_,aE hkl⟩
  have hnl:=Wz (aI hn);obtain⟨x,hx⟩:=gex hnl;have hse:=Vk hch x (aI hx);have hsv:F4 t i (n:Int)=((kV t i x).1,0):=by
   rw[F4,aH hcn,aF zo,eQ,hx];exact Prod.ext rfl hse
  have hst:∀{K:KT},K (.tup [iE (kV t i x).1,.v (.int .i64 0)]) []->AC 38 [kB t,iS i,.v (.int .i64 n)] [] K:=fun h=>
   aJE t zo i hb n (by rw[hsv];exact h)
  have hcon:∀{K:KT},K (.sb (Od t i (hdQ g) n)) []->AC 50 [iE (kV t i x).1,mR g] [] K:=fun h=>Tt _ g ho (lS (Ev t i x)) (by rw[Of hx ho];exact h);have hper:Uv i n=x.permit:=by simp[Uv,hx]
  (repeat' ((conv=>whnf);first|(with_reducible first|refine hZ hkl ?_|refine hU hn ?_|refine hst ?_|refine hcon ?_|refine hZ hnl ?_|refine hU hx ?_)|refine zG ?_|apply zA|intro h|exact zT));all_goals conv=>whnf
  all_goals first
   |(have e:pH t i m g=(x.permit,(n:Int)):=by
      rw[hv,Qt hn zw hin];exact Prod.ext hper rfl
     rw[e]at hK;exact⟨_,gO,hK⟩)
   |(refine⟨k+1,⟨hkl,iD hn zw hin⟩,by omega,?_⟩
     rw[aN,aL];exact leA)
 ·(repeat' ((conv=>whnf);first|refine zG ?_|apply zA|intro h|exact zT));all_goals conv=>whnf
  rw[Qu (iC hkl hin)]at hv;exact hKf hv
/-! segments -/
theorem Xt{c:List Rg}(hc:jC c)(v:Int):(has c v != has c (v-1))=true↔∃r,r∈c/\(v=r.lo\/v=r.hi+1):=by
 constructor
 ·intro h;cases h1:has c v with
  |true=>
   cases h2:has c (v-1)with
   |true=>rw[h1,h2]at h;cases h
   |false=>
    obtain⟨r,hr,a,b⟩:=has_iff.1 h1;refine⟨r,hr,.inl ?_⟩;rcases dW r.lo v with hlt|hge
    ·have:=has_iff.2 ⟨r,hr,(show r.lo<=v-1 by omega),by omega⟩;rw[h2]at this;cases this
    ·omega
  |false=>
   cases h2:has c (v-1)with
   |false=>rw[h1,h2]at h;cases h
   |true=>
    obtain⟨r,hr,a,b⟩:=has_iff.1 h2;refine⟨r,hr,.inr ?_⟩;rcases dW r.hi v with hlt|hge
    ·omega
    ·have:=has_iff.2 ⟨r,hr,(show r.lo<=v by omega),hge⟩;rw[h1]at this;cases this
 ·rintro⟨r,hr,rfl|rfl⟩
  ·obtain⟨h1,h2⟩:=Gd hc hr;rw[h1,h2];rfl
  ·have hle:=hc.1 r hr;have h1:has c (r.hi+1-1)=true:=has_iff.2 ⟨r,hr,by omega,by omega⟩;have h2:has c (r.hi+1)=false:=by
    rw[cB];intro hh;obtain⟨s,hs,s1,s2⟩:=has_iff.1 hh;obtain⟨a,ha,rfl⟩:=fG.1 hr;obtain⟨b,hb,rfl⟩:=fG.1 hs;have hp:=cJ.1 hc.2;rcases Nat.lt_trichotomy a b with hab|hab|hab
    ·have:=hp a b ha hb hab;omega
    ·subst hab;omega
    ·have:=hp b a hb ha hab;have:=hc.1 _ (cX hb);omega
   rw[h1,h2];rfl
def Kk(L:List (List Rg))(v:Int):Bool:=L.any fun w=>uQ w v != uQ w (v-1)
def yQ(L:List (List Rg))(k:Nat):List Int:=0::((List.range k).filter fun(j:Nat)=>Kk L ((j:Int)+1)).map fun(j:Nat)=>(j:Int)+1
theorem Y7(L:List (List Rg))(k:Nat):yQ L (k+1)=yQ L k++(if Kk L ((k:Int)+1)=true then [(k:Int)+1]else []):=by
 unfold yQ;rw[fH,cZ,aQ,fY];cases h:Kk L ((k:Int)+1)<;>simp[h]
theorem R2(L:List (List Rg))(k:Nat):(yQ L k).length<=k+1:=by
 unfold yQ;rw[aB,aA];have:=dK (fun(j:Nat)=>Kk L ((j:Int)+1)) (List.range k);rw[fI]at this;omega
theorem aAd{L:List (List Rg)}{j:Nat}{w:List Rg}(h:L[j]? =some w)(v:Int):Kk (L.take (j+1)) v=(Kk (L.take j) v||(uQ w v != uQ w (v-1))):=by
 unfold Kk;rw[bF,h,List.any_append];simp
theorem aLp(L:List (List Rg))(hL:L.length<=100000)(hw:∀w,w∈L->w.length<=4000){K:KT}(hK:K (.lst ((yQ L 10079).map sJ)) []):AC 66 [.lst (L.map iH)] [] K:=by
 refine aGO rfl rfl ?_;(repeat' ((conv=>whnf);first|refine zG ?_|apply zA|intro h|exact zT));all_goals conv=>whnf
 refine gM Nat (fun k=>⟨1,[(0,.arr 1 ((yQ L k).map sJ))],[(0,.lst (L.map iH)),(3,.os 0 1 0 (yQ L k).length),(4,.v (.int .i64 ((k:Int)+1)))]⟩) (fun k=>k<=10079) (fun k=>10079-k) 0 (aO _) ?_ ?_
 ·exact leA
 intro k hk;have hlen:=R2 L k;rcases aC k 10079 with hkl|hkl
 ·have hsu:=Y7 L k;generalize yQ L k=A at*;(repeat' ((conv=>whnf);first|refine zG ?_|apply zA|intro h|exact zT));all_goals conv=>whnf
  refine gM (Nat×Bool×Bool) (fun g=>⟨1,[(0,.arr 1 (A.map sJ))],[(0,.lst (L.map iH)),(3,.os 0 1 0 A.length),(4,.v (.int .i64 ((k:Int)+1))),(5,bif g.2.2 then .sb g.2.1 else .v (.bool g.2.1)),(6,.v (.int .i64 g.1))]⟩)
   (fun g=>g.1<=L.length/\g.2.1=Kk (L.take g.1) ((k:Int)+1)) (fun g=>L.length-g.1) (0,false,false) ⟨aO _,rfl⟩ ?_ ?_
  ·exact leA
  rintro⟨j,b,fl⟩ ⟨hj,hb⟩
  simp only at hj hb⊢;rcases aC j L.length with hjl|hjl
  ·obtain⟨w,hx⟩:=gex hjl;have hwl:=hw w (aI hx);have hcs:=aAd hx ((k:Int)+1);rw[<-hb]at hcs;have h1:∀{K:KT},K (.sb (uQ w ((k:Int)+1))) []->AC 134 [iH w,.v (.int .i64 ((k:Int)+1))] [] K:=fun h=>aAX w hwl _ h;have h2:∀{K:KT},K (.sb (uQ w ((k:Int)+1-1))) []->AC 134 [iH w,.v (.int .i64 ((k:Int)+1-1))] [] K:=fun h=>aAX w hwl _ h;generalize uQ w ((k:Int)+1)=p at*;generalize uQ w ((k:Int)+1-1)=q at*;cases fl<;>cases b
   all_goals
    (repeat' ((conv=>whnf);first|(with_reducible first|refine h1 ?_|refine h2 ?_|refine hZ hjl ?_|refine hU hx ?_)|refine zG ?_|apply zA|intro h|exact zT));all_goals conv=>whnf
    all_goals first
     |(refine⟨(j+1,true,true),⟨hjl,by simp_all⟩,by simp only;omega,?_⟩
       simp only[aN,aL];exact leA)
     |(refine⟨(j+1,true,false),⟨hjl,by simp_all⟩,by simp only;omega,?_⟩
       simp only[aN,aL];exact leA)
     |(refine⟨(j+1,(p != q),true),⟨hjl,by simp_all⟩,by simp only;omega,?_⟩
       simp only[aN,aL];exact leA)
  ·rw[aU hjl]at hb;rw[<-hb]at hsu;cases fl<;>cases b
   all_goals
    (repeat' ((conv=>whnf);first|refine zG ?_|apply zA|intro h|exact zT));all_goals conv=>whnf
    refine⟨k+1,hkl,by omega,?_⟩;rw[hsu];simp only[bT,if_false,if_true,bI,aQ,aD,aR,bL,aB,aG,aN,aL];exact leA
 ·have hke:k=10079:=by omega
  subst hke;(repeat' ((conv=>whnf);first|(with_reducible refine iP (aA ..) ?_)|refine zG ?_|apply zA|intro h|exact zT));all_goals conv=>whnf
  exact hK
end Go.Proofs.YtnomkooikbhgmaaGreatDoor
