/- Lemmas. -/
import Derived.Test.YtnomkooikbhgmaaGreatDoorM37
import Derived.Test.YtnomkooikbhgmaaGreatDoorM41
import Derived.Test.YtnomkooikbhgmaaGreatDoorM47
set_option linter.unusedVariables false
set_option linter.unusedSimpArgs false
set_option maxRecDepth 100000
set_option maxHeartbeats 4000000
namespace Go.Proofs.YtnomkooikbhgmaaGreatDoor
open Go Go.Vm
theorem dqAct(l:List Rg)(hl:l.length<=4000)(m:Int){K:KT}(hK:K (.sb (actW l m)) []):AC 134 [encRs l,.v (.int .i64 m)] [] K:=by
 refine gO (ofq9Act rfl rfl ?_);unfold actW at hK;by_cases hm:0<=m/\m<=4294967295
 ·rw[decide_eq_true hm.1,decide_eq_true hm.2,eG,eG]at hK;(repeat' ((conv=>whnf);first|(with_reducible refine c34 l _ zo ?_)|refine zG ?_|apply zA|intro h|exact zT));all_goals conv=>whnf
  all_goals first
   |exact fin_s hK rfl
   |exact fin_f hK zw
   |(exfalso;omega)
 ·have e:(decide (0<=m)&&(decide (m<=4294967295)&&has l m))=false:=by
   by_cases h0:0<=m
   ·rw[decide_eq_false (show ¬m<=4294967295 by omega)];simp
   ·rw[decide_eq_false h0];simp
  (repeat' ((conv=>whnf);first|(with_reducible first|refine wr_u32_any fun r r0 r1=>?_|refine c34 l _ zo ?_)|refine zG ?_|apply zA|intro h|exact zT));all_goals conv=>whnf
  all_goals first
   |exact fin_f hK e
   |(exfalso;omega)
theorem doAct(i:Nt)(hb:Bnd i)(n:Nat)(hn:n<i.sts.length)(m:Int){K:KT}(hK:K (.sb (actN i m n)) []):AC 64 [encNt i,.v (.int .i64 n),.v (.int .i64 m)] [] K:=by
 have hw:=hb.w;obtain⟨x,hx⟩:=gex hn;have ha:actN i m n=actB i x m:=by simp[actN,hx]
 rw[ha]at hK;unfold actB at hK;have hse:∀s t:ByteArray,sEq s t=(s.toList==t.toList):=fun s t=>rfl;refine gO (ofh18Act rfl rfl ?_);rcases firstIx_cases (fun w:Wn=>sEq w.name x.dur) i.wins with hf|⟨k,w,hf,hk⟩
 ·have hf':wnIx i.wins x.dur= -1:=hf;rw[hf']at hK;have hfw:∀{K:KT},K (.v (.int .i64 (-1))) []->AC 88 [.lst (i.wins.map encWn),.v (.string x.dur)] [] K:=fun h=>djFindW _ _ zo (by rw[hf'];exact h);(repeat' ((conv=>whnf);first|(with_reducible first|refine hU hn ?_|refine hJ hx ?_|refine hfw ?_)|refine zG ?_|apply zA|intro h|exact zT));all_goals conv=>whnf
  all_goals first
   |exact fin_s hK (by unfold sEq;simp_all)
   |exact fin_t hK (by unfold sEq;simp_all)
   |exact fin_f hK (by unfold sEq;simp_all)
 ·have hf':wnIx i.wins x.dur=(k:Int):=hf;have hkl:=(aP.1 hk).1;have hwl:=hb.wi w (aI hk);rw[hf',eJ,hk]at hK;have hfw:∀{K:KT},K (.v (.int .i64 k)) []->AC 88 [.lst (i.wins.map encWn),.v (.string x.dur)] [] K:=fun h=>djFindW _ _ zo (by rw[hf'];exact h);have hac:∀{K:KT},K (.sb (actW w.act m)) []->AC 134 [encRs w.act,.v (.int .i64 m)] [] K:=fun h=>dqAct _ hwl m h;simp only[cS,cG]at hK;generalize actW w.act m=b at*;(repeat' ((conv=>whnf);first|(with_reducible first|refine hU hn ?_|refine hJ hx ?_|refine hfw ?_|refine hU hkl ?_|refine hJ hk ?_|refine hac ?_)|refine zG ?_|apply zA|intro h|exact zT));all_goals conv=>whnf
  all_goals first
   |exact fin_s hK (by unfold sEq;simp_all)
   |exact fin_t hK (by unfold sEq;simp_all)
   |exact fin_f hK (by unfold sEq;simp_all)
theorem doOrd(i:Nt)(hb:Bnd i)(m:Int){K:KT}(hK:K (.lst ((ordV i m).map vN)) []):AC 20 [encNt i,.v (.int .i64 m)] [] K:=by
 have ht:=hb.t;refine gP (ofh18Ord rfl rfl ?_);unfold ordV at hK;by_cases hv:ntB i=true/\(0<=m/\m<10080)
 case neg=>
  rw[aD hv]at hK;(repeat' ((conv=>whnf);first|(with_reducible refine djNt i hb ?_)|refine zG ?_|apply zA|intro h|exact zT));all_goals conv=>whnf
  all_goals first
   |exact⟨_,gR,hK⟩
   |(exfalso;simp_all;done)
   |(exfalso;simp_all;omega)
 rw[aG hv]at hK;have hpl:∀(c:Nat),c<=1001->(ordF i m c).length<=i.sts.length:=fun c hc=>by
  have h1:=ordP_len (i:=i) (m:=m) (nt_pri hv.1);have h2:∀d,c<=d->(ordF i m c).length<=(ordF i m d).length:=fun d=>by
   induction d with
   |zero=>
    intro h;obtain rfl:c=0:=by omega
    exact aM _
   |succ d ih=>
    intro h;rcases aF c (d+1)with h3|h3
    ·rw[ordF_succ,aC];have:=ih zo;omega
    ·obtain rfl:c=d+1:=by omega
     exact aM _
  exact aZ (h2 1001 hc) h1
 (repeat' ((conv=>whnf);first|(with_reducible refine djNt i hb ?_)|refine zG ?_|apply zA|intro h|exact zT));all_goals conv=>whnf
 all_goals first
  |(exfalso;simp_all;done)
  |(exfalso;simp_all;omega)
  |skip
 refine gL Nat (fun c=>⟨2,[(0,boxNt i),(1,.arr 1 ((ordF i m c).map vN))],[(1,.v (.int .i64 m)),(2,.op 0 0),(5,.os 1 1 0 (ordF i m c).length),(6,.v (.int .i64 (1000-(c:Int))))]⟩)
  (fun c=>c<=1001) (fun c=>1001-c) 0 (aK _) ?_ ?_
 ·exact leA
 intro c hc;rcases aF c 1001 with hcl|hcl
 ·have hsuc:=ordF_succ i m c;have hl1:=hpl c hc;have hl2:=hpl (c+1) hcl;(repeat' ((conv=>whnf);first|refine zG ?_|apply zA|intro h|exact zT));all_goals conv=>whnf
  refine gL Nat (fun n=>⟨2,[(0,boxNt i),(1,.arr 1 ((ordF i m c++priAt i m (1000-(c:Int)) n).map vN))],[(1,.v (.int .i64 m)),(2,.op 0 0),(5,.os 1 1 0 (ordF i m c++priAt i m (1000-(c:Int)) n).length),(6,.v (.int .i64 (1000-(c:Int)))),(7,.v (.int .i64 n))]⟩)
   (fun n=>n<=i.sts.length) (fun n=>i.sts.length-n) 0 (aK _) ?_ ?_
  ·rw[show priAt i m (1000-(c:Int)) 0=[]from rfl,bF];exact leA
  intro n hn;rcases aF n i.sts.length with hnl|hnl
  ·obtain⟨x,hx⟩:=gex hnl;have hpx:priN i n=x.pri:=by simp[priN,hx]
   have hps:=priAt_succ i m (1000-(c:Int)) n;have hlen:(ordF i m c++priAt i m (1000-(c:Int)) n).length<=2000:=by
    have:(priAt i m (1000-(c:Int)) n).length<=n:=aZ (dL ..) zx;rw[aC];omega
   have hact:∀{K:KT},K (.sb (actN i m n)) []->AC 64 [encNt i,.v (.int .i64 n),.v (.int .i64 m)] [] K:=fun h=>doAct i hb n hnl m h;have hnx:(ordF i m c++priAt i m (1000-(c:Int)) (n+1))=(ordF i m c++priAt i m (1000-(c:Int)) n)++(if decide (x.pri=1000-(c:Int))&&actN i m n then [n]else []):=by rw[hps,hpx,cN]
   generalize (ordF i m c++priAt i m (1000-(c:Int)) n)=A at*;generalize actN i m n=b at*;(repeat' ((conv=>whnf);first|(with_reducible first|refine hU hnl ?_|refine hJ hx ?_|refine hact ?_)|refine zG ?_|apply zA|intro h|exact zT));all_goals conv=>whnf
   all_goals first
    |(refine⟨n+1,hnl,by omega,?_⟩
      rw[hnx,aD (by simp_all),bF,aO n,aN];exact leA)
    |(refine⟨n+1,hnl,by omega,?_⟩
      rw[hnx,aG (by simp_all),aQ,aC,aO n,aN];exact leA)
  ·have hne:n=i.sts.length:=by omega
   subst hne;(repeat' ((conv=>whnf);first|refine zG ?_|apply zA|intro h|exact zT));all_goals conv=>whnf
   refine⟨c+1,hcl,by omega,?_⟩;rw[hsuc,show(1000:Int)-((c+1:Nat):Int)=1000-(c:Int)-1 by omega];exact leA
 ·have hce:c=1001:=by omega
  subst hce;(repeat' ((conv=>whnf);first|(with_reducible refine sl_full (aA ..) ?_)|refine zG ?_|apply zA|intro h|exact zT));all_goals conv=>whnf
  exact⟨_,gM,hK⟩
/-! segments -/
theorem putR_set{l l':List Insp}{c:ByteArray}{s:List Bx}{e:Int}(h:PutR l c s l' e)(hl:∀x,x∈l->setB x.set=true)(hs:setB s=true):∀x,x∈l'->setB x.set=true:=by
 intro x hx;cases h with
 |skip=>exact hl x hx
 |ins k _ _ hk=>
  rcases aX.1 hx with hx|hx
  ·exact hl x (cA hx)
  ·rcases aU.1 hx with rfl|hx
   ·exact hs
   ·exact hl x (dP hx)
 |uni k y _ _ hy=>
  rcases List.mem_or_eq_of_mem_set hx with hx|rfl
  ·exact hl x hx
  ·exact setB_combP ..
theorem putP_od{l:List Insp}{c:ByteArray}{s:List Bx}(h:l.Pairwise fun x y=>ltS x.cls y.cls=true):(putP l c s).1.Pairwise fun x y=>ltS x.cls y.cls=true:=by
 unfold putP;split
 ·exact h
 ·exact(putG_mem h).2.2.1
theorem putR_od{l l':List Insp}{c:ByteArray}{s:List Bx}{e:Int}(ho:l.Pairwise fun x y=>ltS x.cls y.cls=true)(h:PutR l c s l' e):l'.Pairwise fun x y=>ltS x.cls y.cls=true:=by
 have h1:=putR_put ho h;have h2:=putP_od (c:=c) (s:=s) ho;rw[<-h1]at h2;exact h2
structure AtE (t:Tp) (i:Nt) (m:Int) (ord:List Nat) (k:Nat) (fl:Bool) (rest:List Bx) (p:Pol):Prop where
 kn:k<=ord.length
 go:atV t i m=atGo t i (ord.drop k) rest p
 rs:setB rest=true
 al:setB p.allow=true
 st:∀x,x∈p.insp->setB x.set=true
 od:p.insp.Pairwise fun x y=>ltS x.cls y.cls=true
 il:p.insp.length<=k
 z:fl=true->p=⟨[],[]⟩
theorem AtE.step{t:Tp}{i:Nt}{m:Int}{ord:List Nat}{k n:Nat}{fl:Bool}{rest:List Bx}{p:Pol}{x:Sm}(h:AtE t i m ord k fl rest p)(hn:ord[k]? =some n)(hx:i.sts[n]? =some x):
  ((combP anB rest (stmP t i x).1).2≠0->atV t i m=(zPol,(combP anB rest (stmP t i x).1).2))/\
  ((combP anB rest (stmP t i x).1).2=0->(combP woB rest (stmP t i x).1).2≠0->atV t i m=(zPol,(combP woB rest (stmP t i x).1).2))/\
  ((combP anB rest (stmP t i x).1).2=0->(combP woB rest (stmP t i x).1).2=0->x.permit=false->AtE t i m ord (k+1) fl (combP woB rest (stmP t i x).1).1 p)/\
  ((combP anB rest (stmP t i x).1).2=0->(combP woB rest (stmP t i x).1).2=0->x.permit=true->(combP orB p.allow (combP anB rest (stmP t i x).1).1).2≠0->atV t i m=(zPol,(combP orB p.allow (combP anB rest (stmP t i x).1).1).2))/\
  (∀l' e,(combP anB rest (stmP t i x).1).2=0->(combP woB rest (stmP t i x).1).2=0->x.permit=true->(combP orB p.allow (combP anB rest (stmP t i x).1).1).2=0->PutR p.insp x.cls (combP anB rest (stmP t i x).1).1 l' e->(e≠0->atV t i m=(zPol,e))/\
   (e=0->AtE t i m ord (k+1) false (combP woB rest (stmP t i x).1).1 ⟨(combP orB p.allow (combP anB rest (stmP t i x).1).1).1,l'⟩)):=by
 obtain⟨hkl,hn'⟩:=aP.1 hn;have hdr:ord.drop k=n::ord.drop (k+1):=by rw[<-hn',<-bB hkl]
 have hg:=h.go;rw[hdr]at hg;unfold atGo at hg;rw[hx]at hg;simp only at hg;refine⟨fun h1=>?_,fun h1 h2=>?_,fun h1 h2 h3=>?_,fun h1 h2 h3 h4=>?_,fun l' e h1 h2 h3 h4 h5=>?_⟩
 ·rw[hg,aG h1]
 ·rw[hg,aD (by simpa using h1),aG h2]
 ·rw[aD (by simpa using h1),aD (by simpa using h2),aG h3]at hg;exact⟨hkl,hg,setB_combP ..,h.al,h.st,h.od,Nat.le_succ_of_le h.il,h.z⟩
 ·rw[hg,aD (by simpa using h1),aD (by simpa using h2),aD (by simp[h3]),aG h4]
 ·rw[aD (by simpa using h1),aD (by simpa using h2),aD (by simp[h3]),aD (by simpa using h4),<-putR_put h.od h5]at hg;refine⟨fun he=>?_,fun he=>?_⟩
  ·rw[hg,aG he]
  ·rw[aD (by simpa using he)]at hg;exact⟨hkl,hg,setB_combP ..,setB_combP ..,putR_set h5 h.st (setB_combP ..),putR_od h.od h5,by have:=putR_len h5;have:=h.il;simp only;omega,fun h=>by cases h⟩
theorem doAtR(t:Tp)(ht:t.edges.length<=5)(hd:t.devs.length<=100)(i:Nt)(hb:Bnd i)(m:Int){K:KT}(hK:K (.tup [encPol (atV t i m).1,.v (.int .i64 (atV t i m).2)]) []):
  AC 8 [encT t,encNt i,.v (.int .i64 m)] [] K:=by
 have hbt:=hb.t;have hKz:∀e:Int,atV t i m=(zPol,e)->∃y,Weak (.tup [.agg [.nils,.nils],.v (.int .i64 e)]) y/\K y []:=fun e he=>by
  rw[he]at hK;exact⟨_,gQ (gS (ys:=[.lst [],.lst []]) ⟨Weak.nils,gR,trivial⟩) gM,hK⟩
 refine gP (ofh18At rfl rfl ?_);by_cases hcn:compB t=true/\ntB i=true
 case neg=>
  have hz:atV t i m=(zPol,1):=by
   have hp:preV t i m=1:=by rw[preV,aD hcn]
   rw[atV,hp,aG zd]
  clear hK;(repeat' ((conv=>whnf);first|(with_reducible first|refine cuCompB t zo ?_|refine djNt i hb ?_)|refine zG ?_|apply zA|intro h|exact zT));all_goals conv=>whnf
  all_goals first
   |exact hKz _ hz
   |(exfalso;simp_all;done)
 have hct:∀{K:KT},K (.sb true) []->AC 34 [encT t] [] K:=fun h=>cuCompB t zo (by rw[hcn.1];exact h);have hnt:∀{K:KT},K (.sb true) []->AC 35 [encNt i] [] K:=fun h=>djNt i hb (by rw[hcn.2];exact h);by_cases hmm:0<=m/\m<10080
 case neg=>
  have hz:atV t i m=(zPol,2):=by
   have hp:preV t i m=2:=by rw[preV,aG hcn,aD hmm]
   rw[atV,hp,aG zd]
  clear hK;(repeat' ((conv=>whnf);first|(with_reducible first|refine hct ?_|refine hnt ?_)|refine zG ?_|apply zA|intro h|exact zT));all_goals conv=>whnf
  all_goals first
   |exact hKz _ hz
   |(exfalso;omega)
 have hpv:preV t i m=chkP t i:=by rw[preV,aG hcn,aG hmm]
 have hck:∀{K:KT},K (.v (.int .i64 (chkP t i))) []->AC 36 [encT t,encNt i] [] K:=fun h=>dkChk t zo zo i hb (by rw[chkV,aG hcn];exact h);have hoc:∀{K:KT},K (.lst ((ordP i m).map vN)) []->AC 20 [encNt i,.v (.int .i64 m)] [] K:=fun h=>doOrd i hb m (by rw[ordV,aG ⟨hcn.2,hmm⟩];exact h);have hrl:∀{K:KT},K (.tup [encXs (realP t).1,.v (.int .i64 (realP t).2)]) []->AC 37 [encT t] [] K:=fun h=>chReal t ht hcn.1 h;have hol:(ordP i m).length<=999:=aZ (ordP_len (nt_pri hcn.2)) hb.t;have hch:=hpv;generalize hcp:chkP t i=cp at hck hch;by_cases hc0:cp=0
 case neg=>
  have hz:atV t i m=(zPol,cp):=by rw[atV,hch,aG hc0]
  clear hK;(repeat' ((conv=>whnf);first|(with_reducible first|refine hct ?_|refine hnt ?_|refine hck ?_)|refine zG ?_|apply zA|intro h|exact zT));all_goals conv=>whnf
  all_goals first
   |exact hKz _ hz
   |(exfalso;omega)
 subst hc0;have hv:atV t i m=atP t i m:=by rw[atV,hch,aD zd]
 unfold atP at hv;(repeat' ((conv=>whnf);first|(with_reducible first|refine hct ?_|refine hnt ?_|refine hck ?_|refine hrl ?_|refine hoc ?_)|refine zG ?_|apply zA|intro h|exact zT));all_goals conv=>whnf
 all_goals first
  |(rw[aG zw]at hv;exact hKz _ hv)
  |(exfalso;omega)
  |skip
 rw[aD (by simpa using(by assumption:(realP t).2=0))]at hv;refine gL (Nat×Bool×List Bx×Pol) (fun g=>⟨4,[(0,boxT t),(1,boxNt i),(2,.box [.nils,.nils]),(3,.box (celPol g.2.1 g.2.2.2))],[(3,.op 0 0),(4,.op 1 0),(6,.op 2 0),(9,encXs g.2.2.1),(11,.op 3 0),(12,.lst ((ordP i m).map vN)),(13,.v (.int .i64 g.1))]⟩)
  (fun g=>AtE t i m (ordP i m) g.1 g.2.1 g.2.2.1 g.2.2.2) (fun g=>(ordP i m).length-g.1) (0,true,(realP t).1,⟨[],[]⟩) ⟨aK _,hv,setB_realP t,setB_nil,fun x h=>(by cases h),List.Pairwise.nil,aK _,fun _=>rfl⟩ ?_ ?_
 ·exact leA
 rintro⟨k,fl,rest,p⟩ hg
 simp only at hg⊢;have hkn:=hg.kn;have hrl:=setB_len hg.rs;have hpl:=setB_len hg.al;have hil:=hg.il;rcases aF k (ordP i m).length with hkl|hkl
 ·obtain⟨n,hn⟩:∃n,(ordP i m)[k]? =some n:=⟨_,aE hkl⟩
  have hnl:=ordF_lt (aI hn);obtain⟨x,hx⟩:=gex hnl;have hsv:stmV t i (n:Int)=((stmP t i x).1,0):=by
   rw[stmV,aG hcn,aD zo,eJ,hx];exact Prod.ext rfl (chk_stm hcp x (aI hx))
  have hst:∀{K:KT},K (.tup [encXs (stmP t i x).1,.v (.int .i64 0)]) []->AC 38 [encT t,encNt i,.v (.int .i64 n)] [] K:=fun h=>
   dkStm t zo i hb n (by rw[hsv];exact h)
  have hss:=stmP_set t i x;obtain⟨g1,g2,g3,g4,g5⟩:=hg.step hn hx;have hsl:=hg.st;have hz:=hg.z;clear hg hsv hv hK hck hoc hnt hct;generalize (stmP t i x).1=s at*;have hsn:=setB_len hss;generalize ordP i m=ord at*;cases fl with
  |true=>
   obtain rfl:=hz rfl;(repeat' ((conv=>whnf);first|(with_reducible first|refine hU hkl ?_|refine hJ hn ?_|refine hU hnl ?_|refine hJ hx ?_|refine hst ?_|refine cr4Int rest _ hrl hsn ?_|refine cr4Sub rest _ hrl hsn ?_)|refine zG ?_|apply zA|intro h|exact zT));all_goals conv=>whnf
   all_goals first
    |exact hKz _ (g1 zw)
    |skip
   have he1:(combP anB rest s).2=0:=by with_reducible assumption
   clear g1;refine gV Bool (fun b=>match b with
    |true=>⟨5,[(0,boxT t),(1,boxNt i),(2,.box [.nils,.nils]),(3,.box [encXs (combP orB [] (combP anB rest s).1).1,.nils]),(4,.box (celSm x))],[(3,.op 0 0),(4,.op 1 0),(6,.op 2 0),(9,encXs (combP woB rest s).1),(11,.op 3 0),(12,.lst (ord.map vN)),(13,.v (.int .i64 k)),(14,.op 4 0),(17,encXs (combP anB rest s).1),(18,.v (.int .i64 (combP orB [] (combP anB rest s).1).2))]⟩
    |false=>⟨5,[(0,boxT t),(1,boxNt i),(2,.box [.nils,.nils]),(3,.box [.nils,.nils]),(4,.box (celSm x))],[(3,.op 0 0),(4,.op 1 0),(6,.op 2 0),(9,encXs (combP woB rest s).1),(11,.op 3 0),(12,.lst (ord.map vN)),(13,.v (.int .i64 k)),(14,.op 4 0),(17,encXs (combP anB rest s).1),(18,.v (.int .i64 (combP woB rest s).2))]⟩) (fun b=>b=true↔((combP woB rest s).2=0/\x.permit=true)) ?_ ?_
   ·(repeat' ((conv=>whnf);first|(with_reducible refine cr4Un0 _ (setB_len (setB_combP ..)) ?_)|refine zG ?_|apply zA|intro h|exact zT));all_goals conv=>whnf
    ·refine⟨true,⟨fun _=>⟨by with_reducible assumption,by with_reducible assumption⟩,fun _=>rfl⟩,?_⟩;exact leA
    all_goals
     refine⟨false,⟨fun h=>(by cases h),fun h=>(by simp_all)⟩,?_⟩;exact leA
   intro b hb;cases b with
   |true=>
    obtain⟨he2,hpm⟩:=hb.1 rfl;refine gV (Option (List Insp×Int)) (fun g=>match g with
     |some q=>⟨4,[(0,boxT t),(1,boxNt i),(2,.box [.nils,.nils]),(3,.box [encXs (combP orB [] (combP anB rest s).1).1,.lst (q.1.map encIn)])],[(3,.op 0 0),(4,.op 1 0),(6,.op 2 0),(9,encXs (combP woB rest s).1),(11,.op 3 0),(12,.lst (ord.map vN)),(13,.v (.int .i64 k)),(18,.v (.int .i64 q.2))]⟩
     |none=>⟨4,[(0,boxT t),(1,boxNt i),(2,.box [.nils,.nils]),(3,.box [encXs (combP orB [] (combP anB rest s).1).1,.nils])],[(3,.op 0 0),(4,.op 1 0),(6,.op 2 0),(9,encXs (combP woB rest s).1),(11,.op 3 0),(12,.lst (ord.map vN)),(13,.v (.int .i64 k)),(18,.v (.int .i64 (combP orB [] (combP anB rest s).1).2))]⟩) (fun g=>match g with
     |some q=>PutR [] x.cls (combP anB rest s).1 q.1 q.2/\(combP orB [] (combP anB rest s).1).2=0
     |none=>(combP orB [] (combP anB rest s).1).2≠0) ?_ ?_
    ·(repeat' ((conv=>whnf);first|(with_reducible refine chPut0 _ _ (setB_combP ..) fun l' e hp=>?_)|refine zG ?_|apply zA|intro h|exact zT));all_goals conv=>whnf
     all_goals first
      |(refine⟨some (l',e),⟨hp,by with_reducible assumption⟩,?_⟩
        exact leA)
      |(refine⟨none,by with_reducible assumption,?_⟩
        exact leA)
      |(exfalso;simp_all;done)
    rintro(_|⟨l',e⟩) hg
    ·(repeat' ((conv=>whnf);first|refine zG ?_|apply zA|intro h|exact zT));all_goals conv=>whnf
     all_goals first
      |exact hKz _ (g4 he1 he2 hpm zw)
      |(exfalso;simp_all;done)
    ·obtain⟨hp,he3⟩:=hg;obtain⟨g6,g7⟩:=g5 l' e he1 he2 hpm he3 hp;(repeat' ((conv=>whnf);first|refine zG ?_|apply zA|intro h|exact zT));all_goals conv=>whnf
     all_goals first
      |exact hKz _ (g6 zw)
      |(refine⟨(k+1,false,(combP woB rest s).1,⟨(combP orB [] (combP anB rest s).1).1,l'⟩),g7 zw,by simp only;omega,?_⟩
        simp only[aO,aN];exact leA)
   |false=>
    have hb':¬((combP woB rest s).2=0/\x.permit=true):=fun h=>by have:=hb.2 h;cases this
    refine Jn.at ⟨4,[(0,boxT t),(1,boxNt i),(2,.box [.nils,.nils]),(3,.box [.nils,.nils])],[(3,.op 0 0),(4,.op 1 0),(6,.op 2 0),(9,encXs (combP woB rest s).1),(11,.op 3 0),(12,.lst (ord.map vN)),(13,.v (.int .i64 k)),(18,.v (.int .i64 (combP woB rest s).2))]⟩ ?_ ?_
    ·(repeat' ((conv=>whnf);first|refine zG ?_|apply zA|intro h|exact zT));all_goals conv=>whnf
     all_goals first
      |(exfalso;exact hb' ⟨by with_reducible assumption,by with_reducible assumption⟩)
      |(refine⟨(),trivial,?_⟩
        exact leA)
    ·(repeat' ((conv=>whnf);first|refine zG ?_|apply zA|intro h|exact zT));all_goals conv=>whnf
     all_goals first
      |exact hKz _ (g2 he1 zw)
      |(refine⟨(k+1,true,(combP woB rest s).1,⟨[],[]⟩),g3 he1 zw (bV.2 fun h=>hb' ⟨by with_reducible assumption,h⟩),by simp only;omega,?_⟩
        simp only[aO,aN];exact leA)
  |false=>
   (repeat' ((conv=>whnf);first|(with_reducible first|refine hU hkl ?_|refine hJ hn ?_|refine hU hnl ?_|refine hJ hx ?_|refine hst ?_|refine cr4Int rest _ hrl hsn ?_|refine cr4Sub rest _ hrl hsn ?_)|refine zG ?_|apply zA|intro h|exact zT));all_goals conv=>whnf
   all_goals first
    |exact hKz _ (g1 zw)
    |skip
   have he1:(combP anB rest s).2=0:=by with_reducible assumption
   clear g1;refine gV Bool (fun b=>match b with
    |true=>⟨5,[(0,boxT t),(1,boxNt i),(2,.box [.nils,.nils]),(3,.box [encXs (combP orB p.allow (combP anB rest s).1).1,.lst (p.insp.map encIn)]),(4,.box (celSm x))],[(3,.op 0 0),(4,.op 1 0),(6,.op 2 0),(9,encXs (combP woB rest s).1),(11,.op 3 0),(12,.lst (ord.map vN)),(13,.v (.int .i64 k)),(14,.op 4 0),(17,encXs (combP anB rest s).1),(18,.v (.int .i64 (combP orB p.allow (combP anB rest s).1).2))]⟩
    |false=>⟨5,[(0,boxT t),(1,boxNt i),(2,.box [.nils,.nils]),(3,.box [encXs p.allow,.lst (p.insp.map encIn)]),(4,.box (celSm x))],[(3,.op 0 0),(4,.op 1 0),(6,.op 2 0),(9,encXs (combP woB rest s).1),(11,.op 3 0),(12,.lst (ord.map vN)),(13,.v (.int .i64 k)),(14,.op 4 0),(17,encXs (combP anB rest s).1),(18,.v (.int .i64 (combP woB rest s).2))]⟩) (fun b=>b=true↔((combP woB rest s).2=0/\x.permit=true)) ?_ ?_
   ·(repeat' ((conv=>whnf);first|(with_reducible refine cr4Un p.allow _ hpl (setB_len (setB_combP ..)) ?_)|refine zG ?_|apply zA|intro h|exact zT));all_goals conv=>whnf
    ·refine⟨true,⟨fun _=>⟨by with_reducible assumption,by with_reducible assumption⟩,fun _=>rfl⟩,?_⟩;exact leA
    all_goals
     refine⟨false,⟨fun h=>(by cases h),fun h=>(by simp_all)⟩,?_⟩;exact leA
   intro b hb;cases b with
   |true=>
    obtain⟨he2,hpm⟩:=hb.1 rfl;refine gV (Option (List Insp×Int)) (fun g=>match g with
     |some q=>⟨4,[(0,boxT t),(1,boxNt i),(2,.box [.nils,.nils]),(3,.box [encXs (combP orB p.allow (combP anB rest s).1).1,.lst (q.1.map encIn)])],[(3,.op 0 0),(4,.op 1 0),(6,.op 2 0),(9,encXs (combP woB rest s).1),(11,.op 3 0),(12,.lst (ord.map vN)),(13,.v (.int .i64 k)),(18,.v (.int .i64 q.2))]⟩
     |none=>⟨4,[(0,boxT t),(1,boxNt i),(2,.box [.nils,.nils]),(3,.box [encXs (combP orB p.allow (combP anB rest s).1).1,.lst (p.insp.map encIn)])],[(3,.op 0 0),(4,.op 1 0),(6,.op 2 0),(9,encXs (combP woB rest s).1),(11,.op 3 0),(12,.lst (ord.map vN)),(13,.v (.int .i64 k)),(18,.v (.int .i64 (combP orB p.allow (combP anB rest s).1).2))]⟩) (fun g=>match g with
     |some q=>PutR p.insp x.cls (combP anB rest s).1 q.1 q.2/\(combP orB p.allow (combP anB rest s).1).2=0
     |none=>(combP orB p.allow (combP anB rest s).1).2≠0) ?_ ?_
    ·(repeat' ((conv=>whnf);first|(with_reducible refine chPut p.insp _ _ zo (setB_combP ..) hsl fun l' e hp=>?_)|refine zG ?_|apply zA|intro h|exact zT));all_goals conv=>whnf
     all_goals first
      |(refine⟨some (l',e),⟨hp,by with_reducible assumption⟩,?_⟩
        exact leA)
      |(refine⟨none,by with_reducible assumption,?_⟩
        exact leA)
      |(exfalso;simp_all;done)
    rintro(_|⟨l',e⟩) hg
    ·(repeat' ((conv=>whnf);first|refine zG ?_|apply zA|intro h|exact zT));all_goals conv=>whnf
     all_goals first
      |exact hKz _ (g4 he1 he2 hpm zw)
      |(exfalso;simp_all;done)
    ·obtain⟨hp,he3⟩:=hg;obtain⟨g6,g7⟩:=g5 l' e he1 he2 hpm he3 hp;(repeat' ((conv=>whnf);first|refine zG ?_|apply zA|intro h|exact zT));all_goals conv=>whnf
     all_goals first
      |exact hKz _ (g6 zw)
      |(refine⟨(k+1,false,(combP woB rest s).1,⟨(combP orB p.allow (combP anB rest s).1).1,l'⟩),g7 zw,by simp only;omega,?_⟩
        simp only[aO,aN];exact leA)
   |false=>
    have hb':¬((combP woB rest s).2=0/\x.permit=true):=fun h=>by have:=hb.2 h;cases this
    refine Jn.at ⟨4,[(0,boxT t),(1,boxNt i),(2,.box [.nils,.nils]),(3,.box [encXs p.allow,.lst (p.insp.map encIn)])],[(3,.op 0 0),(4,.op 1 0),(6,.op 2 0),(9,encXs (combP woB rest s).1),(11,.op 3 0),(12,.lst (ord.map vN)),(13,.v (.int .i64 k)),(18,.v (.int .i64 (combP woB rest s).2))]⟩ ?_ ?_
    ·(repeat' ((conv=>whnf);first|refine zG ?_|apply zA|intro h|exact zT));all_goals conv=>whnf
     all_goals first
      |(exfalso;exact hb' ⟨by with_reducible assumption,by with_reducible assumption⟩)
      |(refine⟨(),trivial,?_⟩
        exact leA)
    ·(repeat' ((conv=>whnf);first|refine zG ?_|apply zA|intro h|exact zT));all_goals conv=>whnf
     all_goals first
      |exact hKz _ (g2 he1 zw)
      |(refine⟨(k+1,false,(combP woB rest s).1,p),g3 he1 zw (bV.2 fun h=>hb' ⟨by with_reducible assumption,h⟩),by simp only;omega,?_⟩
        simp only[aO,aN];exact leA)
 ·have hR:atV t i m=(p,0):=by rw[hg.go,gD hkl,atGo]
  have hz:=hg.z;rw[hR]at hK;clear hg hv;cases fl with
  |true=>
   obtain rfl:=hz rfl;(repeat' ((conv=>whnf);first|refine zG ?_|apply zA|intro h|exact zT));all_goals conv=>whnf
   exact⟨_,gQ (gS (ys:=[.lst [],.lst []]) ⟨Weak.nils,gR,trivial⟩) gM,hK⟩
  |false=>
   (repeat' ((conv=>whnf);first|refine zG ?_|apply zA|intro h|exact zT));all_goals conv=>whnf
   exact⟨_,gM,hK⟩
theorem coSameP(p:Pol)(hl:p.allow.length<1000000000)(hi:p.insp.length<1000000000)(hs:∀x,x∈p.insp->x.set.length<1000000000){K:KT}(hK:K (.sb true) []):AC 9 [encPol p,encPol p] [] K:=by
 have s1:∀{K:KT},K (.sb true) []->AC 43 [encXs p.allow,encXs p.allow] [] K:=fun h=>cr4Same _ _ zo zo (by rw[decide_eq_true rfl];exact h);refine gO (ofoSame rfl rfl ?_);(repeat' ((conv=>whnf);first|(with_reducible refine s1 ?_)|refine zG ?_|apply zA|intro h|exact zT));all_goals conv=>whnf
 all_goals first
  |(exfalso;simp_all;done)
  |skip
 refine gL Nat (fun k=>⟨2,[(0,boxPol p),(1,boxPol p)],[(2,.op 0 0),(3,.op 1 0),(5,.v (.int .i64 k))]⟩) (fun k=>k<=p.insp.length) (fun k=>p.insp.length-k) 0 (aK _) ?_ ?_
 ·exact leA
 intro k hk;rcases aF k p.insp.length with hkl|hkl
 ·obtain⟨y,hy⟩:=gex hkl;have hyl:=hs y (aI hy);have s2:∀{K:KT},K (.sb true) []->AC 43 [encXs y.set,encXs y.set] [] K:=fun h=>cr4Same _ _ zo zo (by rw[decide_eq_true rfl];exact h);(repeat' ((conv=>whnf);first|(with_reducible first|refine hU hkl ?_|refine hJ hy ?_|refine s2 ?_)|refine zG ?_|apply zA|intro h|exact zT));all_goals conv=>whnf
  all_goals first
   |(refine⟨k+1,hkl,by omega,?_⟩
     rw[aO,aN];exact leA)
   |(exfalso;simp_all;done)
 ·(repeat' ((conv=>whnf);first|refine zG ?_|apply zA|intro h|exact zT));all_goals conv=>whnf
  exact fin_t hK rfl
end Go.Proofs.YtnomkooikbhgmaaGreatDoor
