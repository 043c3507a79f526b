/- Lemmas. -/
import Derived.Test.YtnomkooikbhgmaaGreatDoorProg
import Derived.Test.YtnomkooikbhgmaaGreatDoorK25
set_option linter.unusedVariables false
set_option linter.unusedSimpArgs false
set_option maxRecDepth 100000
set_option maxHeartbeats 4000000
noncomputable section
namespace Go.Proofs.YtnomkooikbhgmaaGreatDoor
open Go Go.Vm
theorem aLb(d:Df)(s:ByteArray){K:KT}(hK:K (.sb (sEq d.name s)) []):AC 307 [iG d,.fp [.v (.string s)]] [] K:=by
 refine aIf rfl rfl ?_;(repeat' ((conv=>whnf);first|refine zG ?_|apply zA|intro h|exact zT));all_goals conv=>whnf
 exact hK
theorem Vz(l:List Df)(s:ByteArray)(hl:l.length<1000000){K:KT}(hK:K (.v (.int .i64 (jJ (fun d=>sEq d.name s) l))) []):
  AC 257 [.lst (l.map iG),.fn (.func 307) [] [.fp [.v (.string s)]]] [] K:=by
 refine aDc rfl rfl ?_;(repeat' ((conv=>whnf);first|refine zG ?_|apply zA|intro h|exact zT));all_goals conv=>whnf
 refine gM Nat (fun k=>⟨0,[],[(0,.lst (l.map iG)),(1,.fn (.func 307) [] [.fp [.v (.string s)]]),(7,.v (.int .i64 (l.map iG).length)),(8,.v (.int .i64 k))]⟩) (fun k=>k<=l.length/\∀(i:Nat) y,i<k->l[i]? =some y->sEq y.name s=false) (fun k=>l.length-k) 0 ⟨aO _,fun i y hi=>absurd hi (bC _)⟩ ?_ ?_
 ·exact leA
 intro k ⟨hk,hinv⟩;rcases aC k l.length with hkl|hkl
 ·obtain⟨r,hr⟩:=gex hkl;(repeat' ((conv=>whnf);first|(with_reducible first|refine hZ hkl ?_|refine hU hr ?_|refine aLb r s ?_)|refine zG ?_|apply zA|intro h|exact zT));all_goals conv=>whnf
  ·rw[jQ hr h hinv]at hK;exact hK
  ·refine⟨k+1,⟨by omega,jY hr h hinv⟩,by omega,?_⟩;rw[aN,aL];exact leA
 ·(repeat' ((conv=>whnf);first|refine zG ?_|apply zA|intro h|exact zT));all_goals conv=>whnf
  rw[jS (iC hkl hinv)]at hK;exact hK
def ixs(p:Ed->Bool)(l:List Ed)(k:Nat):List Nat:=(List.range k).filter fun i=>match l[i]? with
 |some e=>p e
 |none=>false
theorem Jo(p:Ed->Bool){l:List Ed}{k:Nat}{e:Ed}(h:l[k]? =some e):ixs p l (k+1)=ixs p l k++if p e=true then [k]else []:=by
 rw[ixs,fH,cZ,<-ixs]
 congr 1
 rw[fA,List.filter_nil];simp only[h]
theorem vD(p:Ed->Bool)(l:List Ed)(k:Nat):(ixs p l k).length<=k:=by
 have:=dK (fun i=>match l[i]? with
  |some e=>p e
  |none=>false) (List.range k)
 rw[fI]at this;exact this
theorem aBX{p:Ed->Bool}{l:List Ed}{k n:Nat}(h:n∈ixs p l k):n<k/\∃e,l[n]? =some e/\p e=true:=by
 rw[ixs,cI,dJ]at h;refine⟨h.1,?_⟩;cases he:l[n]? with
 |none=>simp[he]at h
 |some e=>exact⟨e,rfl,by simpa[he]using h.2⟩
theorem aEM(e:Ed)(s:ByteArray){K:KT}(hK:K (.sb (sEq e.zone s)) []):AC 288 [mX e,.fp [.v (.string s)]] [] K:=by
 refine aDe rfl rfl ?_;(repeat' ((conv=>whnf);first|refine zG ?_|apply zA|intro h|exact zT));all_goals conv=>whnf
 exact hK
theorem aQR(t:Tp)(s:ByteArray)(hl:t.edges.length<1000){K:KT}(hK:K (.lst ((ixs (fun e=>sEq e.zone s) t.edges t.edges.length).map vN)) []):
  AC 287 [kB t,.fn (.func 288) [] [.fp [.v (.string s)]]] [] K:=by
 refine aPf rfl rfl ?_;(repeat' ((conv=>whnf);first|refine zG ?_|apply zA|intro h|exact zT));all_goals conv=>whnf
 refine gM (Nat×List Nat) (fun g=>⟨2,[(1,.arr 1 (g.2.map vN))],[(1,.fn (.func 288) [] [.fp [.v (.string s)]]),(5,.os 1 1 0 g.2.length),(9,.lst (t.edges.map mX)),(10,.v (.int .i64 (t.edges.map mX).length)),(11,.v (.int .i64 g.1))]⟩)
  (fun g=>g.1<=t.edges.length/\g.2=ixs (fun e=>sEq e.zone s) t.edges g.1) (fun g=>t.edges.length-g.1) (0,[]) ⟨aO _,rfl⟩ ?_ ?_
 ·exact leA
 rintro⟨k,out⟩ ⟨hk,ho⟩
 simp only at hk ho⊢;have hol:out.length<=k:=by rw[ho];exact vD _ _ _
 rcases aC k t.edges.length with hkl|hkl
 ·obtain⟨e,he⟩:=gex hkl;have hs:=Jo (fun e=>sEq e.zone s) he;rw[<-ho]at hs;(repeat' ((conv=>whnf);first|(with_reducible first|refine hZ hkl ?_|refine hU he ?_|refine aEM e s ?_)|refine zG ?_|apply zA|intro h|exact zT));all_goals conv=>whnf
  ·refine⟨(k+1,out++[k]),⟨hkl,by rw[hs,aH h]⟩,by simp only;omega,?_⟩;simp only[aQ,aD,aR,bL,aB,aG,aN,aL];exact leA
  ·refine⟨(k+1,out),⟨hkl,by rw[hs,aF (by simp[h]),bI]⟩,by simp only;omega,?_⟩;simp only[aN,aL];exact leA
 ·obtain rfl:k=t.edges.length:=by omega
  rw[<-ho]at hK;(repeat' ((conv=>whnf);first|(with_reducible refine iP (aA ..) ?_)|refine zG ?_|apply zA|intro h|exact zT));all_goals conv=>whnf
  exact hK
theorem aLe(t:Tp)(s:ByteArray)(hl:t.edges.length<1000){K:KT}(hK:K (.lst ((ixs (fun e=>sEq e.zone s) t.edges t.edges.length).map vN)) []):AC 221 [kB t,.v (.string s)] [] K:=by
 refine aIg rfl rfl ?_;(repeat' ((conv=>whnf);first|(with_reducible refine aQR t s hl ?_)|refine zG ?_|apply zA|intro h|exact zT));all_goals conv=>whnf
 exact hK
abbrev Ee(i n:Nat):Vm.Obj:=.box [.os i 2 0 n]
abbrev G7(rs:List Rg):Vm.Obj:=.arr 2 (rs.map jR)
theorem aAF(p:Pf)(rs:List Rg)(hl:rs.length<1000000000000){K:KT}(hK:K (.tup []) [Ee 2 (rs++[p.rg]).length,.box [],G7 (rs++[p.rg])]):
  AC 217 [mT p,.op 0 0] [Ee 1 rs.length,G7 rs] K:=by
 refine aTA rfl rfl ?_;(repeat' ((conv=>whnf);first|(with_reducible refine aQu p ?_)|refine zG ?_|apply zA|intro h|exact zT));all_goals conv=>whnf
 simp only[Ee,G7,aD,aQ]at hK;exact hK
def C7(t:Tp)(i:Nat):Rg:=match t.edges[i]? with
 |some e=>e.pf.rg
 |none=>⟨0,0,by decide,by decide,by decide,by decide⟩
def nU(t:Tp)(x:It)(rs:List Rg):Int×List Rg:=
 if x.kind=2 then(0,rs++[x.pf.rg])else if ixs (fun e=>sEq e.zone x.name) t.edges t.edges.length=[]then(5,rs)else(0,rs++(ixs (fun e=>sEq e.zone x.name) t.edges t.edges.length).map (C7 t))
abbrev adO(i:Nat):Vm.Obj:=.box [.fn (.func 217) [] [.op i 0]]
theorem aQT(t:Tp)(x:It)(rs:List Rg)(hl:t.edges.length<1000)(hr:rs.length<100000000000){K:KT}(hK:K (.v (.int .i64 (nU t x rs).1)) [adO 2,kU t,Ee 4 (nU t x rs).2.length,.box [],G7 (nU t x rs).2]):
  AC 220 [kM x,.op 0 0,.op 1 0] [adO 2,kU t,Ee 3 rs.length,G7 rs] K:=by
 refine aTB rfl rfl ?_;(repeat' ((conv=>whnf);first|(with_reducible first|refine aAF x.pf rs zo ?_|refine aLe t x.name hl ?_)|refine zG ?_|apply zA|intro h|exact zT));all_goals conv=>whnf
 ·rw[nU,aH h]at hK;exact hK
 ·have h0:ixs (fun e=>sEq e.zone x.name) t.edges t.edges.length=[]:=cG.1 (by rw[aA]at h;omega);rw[nU,aF zp,aH h0]at hK;exact hK
 have hne:ixs (fun e=>sEq e.zone x.name) t.edges t.edges.length≠[]:=fun e=>h (by rw[e];rfl);rw[nU,aF zp,aF hne]at hK;have hlt:=fun n hn=>@aBX (fun e=>sEq e.zone x.name) t.edges t.edges.length n hn;have hll:=vD (fun e=>sEq e.zone x.name) t.edges t.edges.length;generalize ixs (fun e=>sEq e.zone x.name) t.edges t.edges.length=L at*;refine gM (Nat×List Rg) (fun g=>⟨5,[(0,adO 2),(1,kU t),(2,Ee 4 g.2.length),(4,G7 g.2)],[(1,.op 0 0),(2,.op 1 0),(22,.lst (L.map vN)),(23,.v (.int .i64 (L.map vN).length)),(24,.v (.int .i64 g.1))]⟩)
  (fun g=>g.1<=L.length/\g.2=rs++(L.take g.1).map (C7 t)) (fun g=>L.length-g.1) (0,rs) ⟨aO _,by simp⟩ ?_ ?_
 ·exact leA
 rintro⟨k,out⟩ ⟨hk,ho⟩
 simp only at hk ho⊢;have hol:out.length=rs.length+k:=by rw[ho,aD,aA,aZ];omega
 rcases aC k L.length with hkl|hkl
 ·obtain⟨n,hn⟩:=gex hkl;obtain⟨hnl,e,he,_⟩:=hlt n (aI hn);have hrg:C7 t n=e.pf.rg:=by rw[C7,he]
  (repeat' ((conv=>whnf);first|(with_reducible first|refine hZ hkl ?_|refine hU hn ?_|refine hZ hnl ?_|refine hU he ?_|refine aAF e.pf out zo ?_)|refine zG ?_|apply zA|intro h|exact zT));all_goals conv=>whnf
  refine⟨(k+1,out++[e.pf.rg]),⟨hkl,?_⟩,by simp only;omega,?_⟩
  ·simp only;rw[ho,bF,hn,aQ,cV];simp[hrg]
  ·simp only[aN,aL];exact leA
 ·have hke:k=L.length:=by omega
  rw[hke,dA]at ho;rw[<-ho]at hK;(repeat' ((conv=>whnf);first|refine zG ?_|apply zA|intro h|exact zT));all_goals conv=>whnf
  exact hK
abbrev foO(l:List Df):Vm.Obj:=.box [.lst (l.map iG),.mp 1,.mp 2,.fn (.func 220) [] [.op 3 0,.op 4 0]]
theorem Xc{t:Tp}(ht:t.edges.length<1000)(x:It)(rs:List Rg)(h:(nU t x rs).1=0):(nU t x rs).2.length<=rs.length+1000:=by
 unfold nU at h⊢;have hll:=vD (fun e=>sEq e.zone x.name) t.edges t.edges.length;split
 ·rw[aD];simp
 ·split
  ·simp
  ·rw[aD,aA];omega
theorem aJt(t:Tp)(ht:t.edges.length<1000)(l:List Df)(hl:l.length<=999)(hit:∀d,d∈l->d.items.length<=999):∀(k:Nat) (p:List Nat) (nm:ByteArray) (d:List Nat) (rs:List Rg),Fine l p d->p.length+k=l.length+1->rs.length<=1000000*(d.length+p.length)->∀{K:KT},
  K (.v (.int .i64 (fol (nU t) l k p nm d rs).1)) [foO l,.map (mW l p),.map (mW l (fol (nU t) l k p nm d rs).2.1),adO 5,kU t,Ee 7 (fol (nU t) l k p nm d rs).2.2.length,.box [],G7 (fol (nU t) l k p nm d rs).2.2]->
  AC 286 [.op 0 0,.v (.string nm)] [foO l,.map (mW l p),.map (mW l d),adO 5,kU t,Ee 6 rs.length,G7 rs] K
 |0,p,nm,d,rs,hf,hk,hrs,K,hK=>by
  have:=hf.small;omega
 |k+1,p,nm,d,rs,hf,hk,hrs,K,hK=>by
  refine aPc rfl rfl ?_;have hsm:=hf.small;cases hn:lK l nm with
  |none=>
   have hix:∀{K:KT},K (.v (.int .i64 (-1))) []->AC 257 [.lst (l.map iG),.fn (.func 307) [] [.fp [.v (.string nm)]]] [] K:=fun {K} h=>
    Vz l nm zo (by rw[mI,hn];exact h)
   simp only[fol,hn]at hK;(repeat' ((conv=>whnf);first|(with_reducible refine hix ?_)|refine zG ?_|apply zA|intro h|exact zT));all_goals conv=>whnf
   exact hK
  |some n=>
   obtain⟨df,hdf,hname,hnl⟩:=lD hn;have hix:∀{K:KT},K (.v (.int .i64 n)) []->AC 257 [.lst (l.map iG),.fn (.func 307) [] [.fp [.v (.string nm)]]] [] K:=fun {K} h=>
    Vz l nm zo (by rw[mI,hn];exact h)
   by_cases hp:n∈p
   ·simp only[fol,hn,aH hp]at hK;(repeat' ((conv=>whnf);first|(with_reducible first|refine hix ?_|refine Hv (wY hn hp) ?_)|refine zG ?_|apply zA|intro h|exact zT));all_goals conv=>whnf
    exact hK
   by_cases hd:n∈d
   ·simp only[fol,hn,aF hp,aH hd]at hK;(repeat' ((conv=>whnf);first|(with_reducible first|refine hix ?_|refine yE (qF hf.pf hn hp) ?_|refine Hv (wY hn hd) ?_)|refine zG ?_|apply zA|intro h|exact zT));all_goals conv=>whnf
    exact hK
   simp only[fol,hn,aF hp,aF hd,hdf,dF,cY]at hK;(repeat' ((conv=>whnf);first|(with_reducible first|refine hix ?_|refine yE (qF hf.pf hn hp) ?_|refine yE (qF hf.df hn hd) ?_|refine hJ (updM_name hn) ?_|refine hZ hnl ?_|refine hU hdf ?_)|refine zG ?_|apply zA|intro h|exact zT));all_goals conv=>whnf
   have hpush:=hf.push hn hp hd;have hfed:=fun(q:Nat) nm d s h h0=>Hs (nU t) List.length (Xc ht) l hit q (p++[n]) nm d s h h0;have hlen:=hit df (aI hdf);refine gM (Nat×List Nat×List Rg) (fun g=>⟨9,[(0,foO l),(1,.map (mW l (p++[n]))),(2,.map (mW l g.2.1)),(3,adO 5),(4,kU t),(5,Ee 7 g.2.2.length),(7,G7 g.2.2),(8,.box [.v (.string nm)])],[(0,.op 0 0),(3,.op 8 0),(49,.lst (df.items.map kM)),(50,.v (.int .i64 (df.items.map kM).length)),(51,.v (.int .i64 g.1)),(DS,.dfr 1 nm)]⟩)
    (fun g=>g.1<=df.items.length/\Fine l (p++[n]) g.2.1/\pS (nU t) (fol (nU t) l k (p++[n])) df.items d rs=pS (nU t) (fol (nU t) l k (p++[n])) (df.items.drop g.1) g.2.1 g.2.2/\d.length<=g.2.1.length/\g.2.2.length+1000000*d.length<=rs.length+1000000*g.2.1.length+1000*g.1)
    (fun g=>df.items.length-g.1) (0,d,rs) ⟨aO _,hpush,by rw[cA],aK _,by simp only;omega⟩ ?_ ?_
   ·exact leA
   rintro⟨i,d1,rs1⟩ ⟨hi,hf1,heq,hd1,hsz⟩
   simp only at hi hf1 heq hd1 hsz⊢;rcases aC i df.items.length with hil|hil
   ·obtain⟨x,hx⟩:=gex hil;have hdr:df.items.drop i=x::df.items.drop (i+1):=by
     rw[bB hil]
     congr 1
     rw[aE hil]at hx;cases hx;rfl
    rw[hdr,pE]at heq;have hsm1:=hf1.small;rw[aD,cR]at hsm1;by_cases hk3:x.kind=3
    ·simp only[aH hk3]at heq;have hc:=fun {K} h=>@aJt t ht l hl hit k (p++[n]) x.name d1 rs1 hf1 (by rw[aD];simp only[cR];omega) (by rw[aD];simp only[cR];omega) K h;have hfq:=hfed k x.name d1 rs1 hf1;generalize fol (nU t) l k (p++[n]) x.name d1 rs1=q at*;obtain⟨qe,qd,qs⟩:=q;simp only at heq hc hfq;(repeat' ((conv=>whnf);first|(with_reducible first|refine hZ hil ?_|refine hU hx ?_|refine hc ?_|refine hJ (delM_name hf.pf hn hp) ?_)|refine zG ?_|apply zA|intro h|exact zT));all_goals conv=>whnf
     all_goals first
      |(have hne:¬qe=0:=by first|assumption|(intro e;simp_all;done)
        rw[heq,aF hne]at hK;simp only[aF hne]at hK;exact hK)
      |(have h0:qe=0:=by first|assumption|(simp_all;done)
        have hfq:=hfq h0;refine⟨(i+1,qd,qs),⟨hil,hfq.fine,by rw[heq,aH h0],by have:=hfq.le;simp only;omega,by have:=hfq.size;simp only;omega⟩,by simp only;omega,?_⟩;simp only[aN,aL];exact leA)
    ·simp only[aF hk3]at heq;have hc:=fun {K} h=>@aQT t x rs1 ht zo K h;have hvz:=Xc ht x rs1;generalize nU t x rs1=q at*;obtain⟨qe,qs⟩:=q;simp only at heq hc hvz;(repeat' ((conv=>whnf);first|(with_reducible first|refine hZ hil ?_|refine hU hx ?_|refine hc ?_|refine hJ (delM_name hf.pf hn hp) ?_)|refine zG ?_|apply zA|intro h|exact zT));all_goals conv=>whnf
     all_goals first
      |(have hne:¬qe=0:=by first|assumption|(intro e;simp_all;done)
        rw[heq,aF hne]at hK;simp only[aF hne]at hK;exact hK)
      |(have h0:qe=0:=by first|assumption|(simp_all;done)
        have hvz:=hvz h0;refine⟨(i+1,d1,qs),⟨hil,hf1,by rw[heq,aH h0],by skip;simp only;omega,by skip;simp only;omega⟩,by simp only;omega,?_⟩;simp only[aN,aL];exact leA)
   ·have hie:i=df.items.length:=by omega
    rw[hie,List.drop_length,I4]at heq;rw[heq]at hK;simp only[if_true]at hK;(repeat' ((conv=>whnf);first|(with_reducible first|refine hJ (updM_name hn) ?_|refine hJ (delM_name hf.pf hn hp) ?_)|refine zG ?_|apply zA|intro h|exact zT));all_goals conv=>whnf
    exact hK
abbrev itO(i n:Nat):Vm.Obj:=.box [.os i 7 0 n]
abbrev arI(its:List It):Vm.Obj:=.arr 7 (its.map kM)
def oP(x:It)(its:List It):Int×List It:=(0,its++[x])
theorem Xd(x:It)(its:List It)(h:(oP x its).1=0):(oP x its).2.length<=its.length+1000:=by
 simp[oP]
theorem aQP(x:It)(its:List It)(hl:its.length<100000000000){K:KT}(hK:K (.v (.int .i64 (oP x its).1)) [itO 2 (oP x its).2.length,.box [],arI (oP x its).2]):
  AC 222 [kM x,.op 0 0] [itO 1 its.length,arI its] K:=by
 refine aTC rfl rfl ?_;(repeat' ((conv=>whnf);first|refine zG ?_|apply zA|intro h|exact zT));all_goals conv=>whnf
 simp only[oP,itO,arI,aD,aQ]at hK;exact hK
abbrev fsO(l:List Df):Vm.Obj:=.box [.lst (l.map iG),.mp 1,.mp 2,.fn (.func 222) [] [.op 3 0]]
theorem aJu(l:List Df)(hl:l.length<=999)(hit:∀d,d∈l->d.items.length<=999):∀(k:Nat) (p:List Nat) (nm:ByteArray) (d:List Nat) (rs:List It),Fine l p d->p.length+k=l.length+1->rs.length<=1000000*(d.length+p.length)->∀{K:KT},
  K (.v (.int .i64 (fol (oP) l k p nm d rs).1)) [fsO l,.map (mW l p),.map (mW l (fol (oP) l k p nm d rs).2.1),itO 5 (fol (oP) l k p nm d rs).2.2.length,.box [],arI (fol (oP) l k p nm d rs).2.2]->
  AC 286 [.op 0 0,.v (.string nm)] [fsO l,.map (mW l p),.map (mW l d),itO 4 rs.length,arI rs] K
 |0,p,nm,d,rs,hf,hk,hrs,K,hK=>by
  have:=hf.small;omega
 |k+1,p,nm,d,rs,hf,hk,hrs,K,hK=>by
  refine aPd rfl rfl ?_;have hsm:=hf.small;cases hn:lK l nm with
  |none=>
   have hix:∀{K:KT},K (.v (.int .i64 (-1))) []->AC 257 [.lst (l.map iG),.fn (.func 307) [] [.fp [.v (.string nm)]]] [] K:=fun {K} h=>
    Vz l nm zo (by rw[mI,hn];exact h)
   simp only[fol,hn]at hK;(repeat' ((conv=>whnf);first|(with_reducible refine hix ?_)|refine zG ?_|apply zA|intro h|exact zT));all_goals conv=>whnf
   exact hK
  |some n=>
   obtain⟨df,hdf,hname,hnl⟩:=lD hn;have hix:∀{K:KT},K (.v (.int .i64 n)) []->AC 257 [.lst (l.map iG),.fn (.func 307) [] [.fp [.v (.string nm)]]] [] K:=fun {K} h=>
    Vz l nm zo (by rw[mI,hn];exact h)
   by_cases hp:n∈p
   ·simp only[fol,hn,aH hp]at hK;(repeat' ((conv=>whnf);first|(with_reducible first|refine hix ?_|refine Hv (wY hn hp) ?_)|refine zG ?_|apply zA|intro h|exact zT));all_goals conv=>whnf
    exact hK
   by_cases hd:n∈d
   ·simp only[fol,hn,aF hp,aH hd]at hK;(repeat' ((conv=>whnf);first|(with_reducible first|refine hix ?_|refine yE (qF hf.pf hn hp) ?_|refine Hv (wY hn hd) ?_)|refine zG ?_|apply zA|intro h|exact zT));all_goals conv=>whnf
    exact hK
   simp only[fol,hn,aF hp,aF hd,hdf,dF,cY]at hK;(repeat' ((conv=>whnf);first|(with_reducible first|refine hix ?_|refine yE (qF hf.pf hn hp) ?_|refine yE (qF hf.df hn hd) ?_|refine hJ (updM_name hn) ?_|refine hZ hnl ?_|refine hU hdf ?_)|refine zG ?_|apply zA|intro h|exact zT));all_goals conv=>whnf
   have hpush:=hf.push hn hp hd;have hfed:=fun(q:Nat) nm d s h h0=>Hs (oP) List.length Xd l hit q (p++[n]) nm d s h h0;have hlen:=hit df (aI hdf);refine gM (Nat×List Nat×List It) (fun g=>⟨7,[(0,fsO l),(1,.map (mW l (p++[n]))),(2,.map (mW l g.2.1)),(3,itO 5 g.2.2.length),(5,arI g.2.2),(6,.box [.v (.string nm)])],[(0,.op 0 0),(3,.op 6 0),(49,.lst (df.items.map kM)),(50,.v (.int .i64 (df.items.map kM).length)),(51,.v (.int .i64 g.1)),(DS,.dfr 1 nm)]⟩)
    (fun g=>g.1<=df.items.length/\Fine l (p++[n]) g.2.1/\pS (oP) (fol (oP) l k (p++[n])) df.items d rs=pS (oP) (fol (oP) l k (p++[n])) (df.items.drop g.1) g.2.1 g.2.2/\d.length<=g.2.1.length/\g.2.2.length+1000000*d.length<=rs.length+1000000*g.2.1.length+1000*g.1)
    (fun g=>df.items.length-g.1) (0,d,rs) ⟨aO _,hpush,by rw[cA],aK _,by simp only;omega⟩ ?_ ?_
   ·exact leA
   rintro⟨i,d1,rs1⟩ ⟨hi,hf1,heq,hd1,hsz⟩
   simp only at hi hf1 heq hd1 hsz⊢;rcases aC i df.items.length with hil|hil
   ·obtain⟨x,hx⟩:=gex hil;have hdr:df.items.drop i=x::df.items.drop (i+1):=by
     rw[bB hil]
     congr 1
     rw[aE hil]at hx;cases hx;rfl
    rw[hdr,pE]at heq;have hsm1:=hf1.small;rw[aD,cR]at hsm1;by_cases hk3:x.kind=3
    ·simp only[aH hk3]at heq;have hc:=fun {K} h=>@aJu l hl hit k (p++[n]) x.name d1 rs1 hf1 (by rw[aD];simp only[cR];omega) (by rw[aD];simp only[cR];omega) K h;have hfq:=hfed k x.name d1 rs1 hf1;generalize fol (oP) l k (p++[n]) x.name d1 rs1=q at*;obtain⟨qe,qd,qs⟩:=q;simp only at heq hc hfq;(repeat' ((conv=>whnf);first|(with_reducible first|refine hZ hil ?_|refine hU hx ?_|refine hc ?_|refine hJ (delM_name hf.pf hn hp) ?_)|refine zG ?_|apply zA|intro h|exact zT));all_goals conv=>whnf
     all_goals first
      |(have hne:¬qe=0:=by first|assumption|(intro e;simp_all;done)
        rw[heq,aF hne]at hK;simp only[aF hne]at hK;exact hK)
      |(have h0:qe=0:=by first|assumption|(simp_all;done)
        have hfq:=hfq h0;refine⟨(i+1,qd,qs),⟨hil,hfq.fine,by rw[heq,aH h0],by have:=hfq.le;simp only;omega,by have:=hfq.size;simp only;omega⟩,by simp only;omega,?_⟩;simp only[aN,aL];exact leA)
    ·simp only[aF hk3]at heq;have hc:=fun {K} h=>@aQP x rs1 zo K h;have hvz:=Xd x rs1;generalize oP x rs1=q at*;obtain⟨qe,qs⟩:=q;simp only at heq hc hvz;(repeat' ((conv=>whnf);first|(with_reducible first|refine hZ hil ?_|refine hU hx ?_|refine hc ?_|refine hJ (delM_name hf.pf hn hp) ?_)|refine zG ?_|apply zA|intro h|exact zT));all_goals conv=>whnf
     all_goals first
      |(have hne:¬qe=0:=by first|assumption|(intro e;simp_all;done)
        rw[heq,aF hne]at hK;simp only[aF hne]at hK;exact hK)
      |(have h0:qe=0:=by first|assumption|(simp_all;done)
        have hvz:=hvz h0;refine⟨(i+1,d1,qs),⟨hil,hf1,by rw[heq,aH h0],by skip;simp only;omega,by skip;simp only;omega⟩,by simp only;omega,?_⟩;simp only[aN,aL];exact leA)
   ·have hie:i=df.items.length:=by omega
    rw[hie,List.drop_length,I4]at heq;rw[heq]at hK;simp only[if_true]at hK;(repeat' ((conv=>whnf);first|(with_reducible first|refine hJ (updM_name hn) ?_|refine hJ (delM_name hf.pf hn hp) ?_)|refine zG ?_|apply zA|intro h|exact zT));all_goals conv=>whnf
    exact hK
def oE{α:Type}(lt:α->α->Bool):List α->α->List α
 |[],x=>[x]
 |y::ys,x=>if lt x y then y::oE lt ys x else x::y::ys
def nK{α:Type}(lt:α->α->Bool)(l:List α):List α:=l.foldl (oE lt) []
def tD{α:Type}(lt:α->α->Bool)(l:List α):List α:=(nK lt l).reverse
theorem Fo{α:Type}{lt:α->α->Bool}{x:α}:∀{B A:List α},(∀y,y∈B->lt x y=true)->(∀a A',A=a::A'->lt x a=false)->oE lt (B++A) x=B++x::A
 |[],[],_,_=>rfl
 |[],a::A,_,h=>by simp[oE,h a A rfl]
 |b::B,A,h1,h2=>by
  simp only[fY,oE,h1 b zx,if_true];rw[Fo (fun y hy=>h1 y (by simp[hy])) h2]
theorem yW{α:Type}(lt:α->α->Bool):∀(l:List α) (x:α),(oE lt l x).length=l.length+1
 |[],x=>rfl
 |y::ys,x=>by
  simp only[oE];split
  ·simp[yW lt ys x]
  ·simp
theorem Jj{α:Type}{lt:α->α->Bool}{z:α}:∀{l:List α} {x:α},z∈oE lt l x↔z=x\/z∈l
 |[],x=>by simp[oE]
 |y::ys,x=>by
  simp only[oE];split
  ·simp only[aV,Jj (l:=ys)];constructor
   ·rintro(h|h|h)<;>simp[h]
   ·rintro(h|h|h)<;>simp[h]
  ·simp
theorem Pe{α:Type}{lt:α->α->Bool}{l:List α}{k:Nat}{x:α}(h:l[k]? =some x):nK lt (l.take (k+1))=oE lt (nK lt (l.take k)) x:=by
 simp[nK,bF,h]
theorem uF{α:Type}(lt:α->α->Bool):∀(l acc:List α),(l.foldl (oE lt) acc).length=acc.length+l.length
 |[],acc=>rfl
 |x::l,acc=>by rw[eG,uF lt l,yW,aB];omega
theorem xH{α:Type}(lt:α->α->Bool)(l:List α):(nK lt l).length=l.length:=by
 rw[nK,uF];simp
theorem yV{α:Type}{lt:α->α->Bool}{z:α}:∀{l acc:List α},z∈l.foldl (oE lt) acc↔z∈l\/z∈acc
 |[],acc=>by simp
 |x::l,acc=>by
  rw[eG,yV (l:=l),Jj,aV];constructor
  ·rintro(h|h|h)<;>simp[h]
  ·rintro((h|h)|h)<;>simp[h]
theorem D4{α:Type}(lt:α->α->Bool)(l:List α):(tD lt l).length=l.length:=by rw[tD,List.length_reverse,xH]
def aLS:Ctx:={N:=18,plan:=p1 4 Ab pn}
abbrev aGJ:=ofD aLS Tryz.func50
theorem V7(l:List Df):Fine l [] []:=⟨List.Pairwise.nil,List.Pairwise.nil,Firsts.nil,Firsts.nil,fun n h=>(by cases h),fun n h=>(by cases h),fun n h=>(by cases h)⟩
inductive Lead {U:Type} (l:List Df) (vis:It->U->Prop):ByteArray->U->Prop
 |here {nm:ByteArray} {n:Nat} {d:Df} {x:It} {u:U} (h1:lK l nm=some n) (h2:l[n]? =some d) (h3:x∈d.items) (h4:x.kind≠3) (h5:vis x u):Lead l vis nm u
 |there {nm:ByteArray} {n:Nat} {d:Df} {x:It} {u:U} (h1:lK l nm=some n) (h2:l[n]? =some d) (h3:x∈d.items) (h4:x.kind=3) (h5:Lead l vis x.name u):Lead l vis nm u
inductive Good (l:List Df) (ok:It->Bool):ByteArray->Prop
 |mk {nm:ByteArray} {n:Nat} {d:Df} (h1:lK l nm=some n) (h2:l[n]? =some d) (h3:∀x,x∈d.items->x.kind≠3->ok x=true) (h4:∀x,x∈d.items->x.kind=3->Good l ok x.name):Good l ok nm
inductive Need (l:List Df):Nat->Nat->Prop
 |one {n m:Nat} {d:Df} {x:It} (h1:l[n]? =some d) (h2:x∈d.items) (h3:x.kind=3) (h4:lK l x.name=some m):Need l n m
 |more {n m k:Nat} (h1:Need l n m) (h2:Need l m k):Need l n k
theorem Need.first{l:List Df}{n k:Nat}(h:Need l n k):∃d x m,l[n]? =some d/\x∈d.items/\x.kind=3/\lK l x.name=some m/\(m=k\/Need l m k):=by
 induction h with
 |one h1 h2 h3 h4=>exact⟨_,_,_,h1,h2,h3,h4,.inl rfl⟩
 |more h1 h2 ih1 ih2=>
  obtain⟨d,x,m,g1,g2,g3,g4,g5⟩:=ih1;refine⟨d,x,m,g1,g2,g3,g4,.inr ?_⟩;rcases g5 with rfl|g5
  ·exact h2
  ·exact .more g5 h2
section
variable {S U:Type} (v:It->S->Int×S) (mem:S->U->Prop) (vis:It->U->Prop) (ok:It->Bool)
structure Vis:Prop where
 add:∀x s,(v x s).1=0->∀u,mem (v x s).2 u↔(mem s u\/vis x u)
 ok:∀x s,(v x s).1=0↔ok x=true
structure Closed (l:List Df) (d:List Nat) (s:S):Prop where
 it:∀n,n∈d->∀df,l[n]? =some df->∀x,x∈df.items->x.kind≠3->∀u,vis x u->mem s u
 nm:∀n,n∈d->∀df,l[n]? =some df->∀x,x∈df.items->x.kind=3->∃m,m∈d/\lK l x.name=some m
 good:∀n,n∈d->∀nm,lK l nm=some n->Good l ok nm
structure Fol (l:List Df) (p:List Nat) (d:List Nat) (s:S) (d':List Nat) (s':S) (new:U->Prop):Prop where
 fine:Fine l p d'
 closed:Closed mem vis ok l d' s'
 sub:∀n,n∈d->n∈d'
 up:∀u,mem s u->mem s' u
 dn:∀u,mem s' u->mem s u\/new u
theorem Ya{l:List Df}{d:List Nat}{s:S}(h:Closed mem vis ok l d s){nm:ByteArray}{u:U}(hl:Lead l vis nm u):∀m,m∈d->lK l nm=some m->mem s u:=by
 induction hl with
 |here h1 h2 h3 h4 h5=>
  intro m hm hf;rw[h1]at hf;cases hf;exact h.it _ hm _ h2 _ h3 h4 _ h5
 |there h1 h2 h3 h4 h5 ih=>
  intro m hm hf;rw[h1]at hf;cases hf;obtain⟨m',h6,h7⟩:=h.nm _ hm _ h2 _ h3 h4;exact ih m' h6 h7
variable (hv:Vis v mem vis ok)
include hv
theorem Qy{l:List Df}{p:List Nat}{rec:ByteArray->List Nat->S->Int×List Nat×S}
  (hrec:∀nm d s,Fine l p d->Closed mem vis ok l d s->(rec nm d s).1=0->Fol mem vis ok l p d s (rec nm d s).2.1 (rec nm d s).2.2 (Lead l vis nm)/\∃m,m∈(rec nm d s).2.1/\lK l nm=some m):
  ∀(its:List It) (d:List Nat) (s:S),Fine l p d->Closed mem vis ok l d s->(pS v rec its d s).1=0->
  Fol mem vis ok l p d s (pS v rec its d s).2.1 (pS v rec its d s).2.2 (fun u=>∃x,x∈its/\((x.kind≠3/\vis x u)\/(x.kind=3/\Lead l vis x.name u)))/\
  (∀x,x∈its->x.kind≠3->ok x=true/\∀u,vis x u->mem (pS v rec its d s).2.2 u)/\∀x,x∈its->x.kind=3->∃m,m∈(pS v rec its d s).2.1/\lK l x.name=some m
 |[],d,s,hf,hc,_=>⟨⟨hf,hc,fun _ h=>h,fun _ h=>h,fun _ h=>.inl h⟩,fun x h=>(by cases h),fun x h=>(by cases h)⟩
 |x::r,d,s,hf,hc,h=>by
  rw[pE]at h⊢;have hq:(if x.kind=3 then rec x.name d s else((v x s).1,d,(v x s).2)).1=0->
    Fol mem vis ok l p d s (if x.kind=3 then rec x.name d s else((v x s).1,d,(v x s).2)).2.1 (if x.kind=3 then rec x.name d s else((v x s).1,d,(v x s).2)).2.2 (fun u=>(x.kind≠3/\vis x u)\/(x.kind=3/\Lead l vis x.name u))/\
    (x.kind≠3->ok x=true/\∀u,vis x u->mem (if x.kind=3 then rec x.name d s else((v x s).1,d,(v x s).2)).2.2 u)/\(x.kind=3->∃m,m∈(if x.kind=3 then rec x.name d s else((v x s).1,d,(v x s).2)).2.1/\lK l x.name=some m):=by
   by_cases hk:x.kind=3
   ·rw[aH hk];intro h0;obtain⟨g,gm⟩:=hrec x.name d s hf hc h0;exact⟨⟨g.fine,g.closed,g.sub,g.up,fun u hu=>(g.dn u hu).imp id fun hl=>.inr ⟨hk,hl⟩⟩,fun hn=>absurd hk hn,fun _=>gm⟩
   ·rw[aF hk];intro h0;have ha:=hv.add x s h0;exact⟨⟨hf,⟨fun n hn df hdf y hy hy3 u hu=>(ha u).2 (.inl (hc.it n hn df hdf y hy hy3 u hu)),hc.nm,hc.good⟩,fun _ h=>h,fun u hu=>(ha u).2 (.inl hu),fun u hu=>((ha u).1 hu).imp id fun hx=>.inl ⟨hk,hx⟩⟩,
     fun _=>⟨(hv.ok x s).1 h0,fun u hu=>(ha u).2 (.inr hu)⟩,fun h3=>absurd h3 hk⟩
  generalize (if x.kind=3 then rec x.name d s else((v x s).1,d,(v x s).2))=q at*;by_cases h0:q.1=0
  ·rw[aH h0]at h⊢;obtain⟨g,g1,g2⟩:=hq h0;obtain⟨f,f1,f2⟩:=Qy hrec r q.2.1 q.2.2 g.fine g.closed h;refine⟨⟨f.fine,f.closed,fun n hn=>f.sub n (g.sub n hn),fun u hu=>f.up u (g.up u hu),fun u hu=>?_⟩,fun y hy hy3=>?_,fun y hy hy3=>?_⟩
   ·rcases f.dn u hu with h1|⟨y,hy,h1⟩
    ·rcases g.dn u h1 with h1|h1
     ·exact .inl h1
     ·exact .inr ⟨x,by simp,h1⟩
    ·exact .inr ⟨y,aS _ hy,h1⟩
   ·rcases aV.1 hy with rfl|hy
    ·exact⟨(g1 hy3).1,fun u hu=>f.up u ((g1 hy3).2 u hu)⟩
    ·exact f1 y hy hy3
   ·rcases aV.1 hy with rfl|hy
    ·obtain⟨m,hm,hfm⟩:=g2 hy3;exact⟨m,f.sub m hm,hfm⟩
    ·exact f2 y hy hy3
  ·rw[aF h0]at h;exact absurd h h0
theorem V9(l:List Df):∀(k:Nat) (p:List Nat) (nm:ByteArray) (d:List Nat) (s:S),Fine l p d->Closed mem vis ok l d s->(fol v l k p nm d s).1=0->
  Fol mem vis ok l p d s (fol v l k p nm d s).2.1 (fol v l k p nm d s).2.2 (Lead l vis nm)/\∃m,m∈(fol v l k p nm d s).2.1/\lK l nm=some m
 |0,p,nm,d,s,hf,hc,h=>by simp[fol]at h
 |k+1,p,nm,d,s,hf,hc,h=>by
  unfold fol at h⊢;cases hn:lK l nm with
  |none=>simp[hn]at h
  |some n=>
   simp only[hn]at h⊢;split at h
   ·simp at h
   rename_i hp;rw[aF hp];split at h
   ·rename_i hd;rw[aH hd];exact⟨⟨hf,hc,fun _ h=>h,fun _ h=>h,fun _ h=>.inl h⟩,n,hd,rfl⟩
   rename_i hd;rw[aF hd];obtain⟨df,hdf,hname,_⟩:=lD hn;simp only[hdf,dF,cY]at h⊢;have hpush:=hf.push hn hp hd;split at h
   ·rename_i h0;rw[aH h0];obtain⟨g,g1,g2⟩:=Qy v mem vis ok hv (fun nm d s hf hc h=>V9 l k (p++[n]) nm d s hf hc h) df.items d s hpush hc h0;simp only;have hgood:Good l ok nm:=.mk hn hdf (fun x hx h3=>(g1 x hx h3).1) fun x hx h3=>by
     obtain⟨m,hm,hfm⟩:=g2 x hx h3;exact g.closed.good m hm x.name hfm
    refine⟨⟨g.fine.pop hn,⟨fun m hm e he x hx h3 u hu=>?_,fun m hm e he x hx h3=>?_,fun m hm nm2 hf2=>?_⟩,fun m hm=>cM _ (g.sub m hm),g.up,fun u hu=>?_⟩,n,by simp,rfl⟩
    ·rcases aY.1 hm with hm|hm
     ·exact g.closed.it m hm e he x hx h3 u hu
     ·rw[aW.1 hm,hdf]at he;cases he;exact(g1 x hx h3).2 u hu
    ·rcases aY.1 hm with hm|hm
     ·obtain⟨m2,h1,h2⟩:=g.closed.nm m hm e he x hx h3;exact⟨m2,cM _ h1,h2⟩
     ·rw[aW.1 hm,hdf]at he;cases he;obtain⟨m2,h1,h2⟩:=g2 x hx h3;exact⟨m2,cM _ h1,h2⟩
    ·rcases aY.1 hm with hm|hm
     ·exact g.closed.good m hm nm2 hf2
     ·rw[aW.1 hm]at hf2;obtain⟨df2,hdf2,hname2,_⟩:=lD hf2;rw[hdf]at hdf2;cases hdf2;rw[<-hname2,hname];exact hgood
    ·rcases g.dn u hu with h1|⟨x,hx,⟨h3,h4⟩|⟨h3,h4⟩⟩
     ·exact .inl h1
     ·exact .inr (.here hn hdf hx h3 h4)
     ·exact .inr (.there hn hdf hx h3 h4)
   ·rename_i h0;exact absurd h h0
theorem aBl(l:List Df)(nm:ByteArray)(s:S)(hs:∀u,¬mem s u)(h:(fol v l (l.length+1) [] nm [] s).1=0):
  Good l ok nm/\∀u,mem (fol v l (l.length+1) [] nm [] s).2.2 u↔Lead l vis nm u:=by
 obtain⟨g,m,hm,hf⟩:=V9 v mem vis ok hv l (l.length+1) [] nm [] s (V7 l) ⟨fun n h=>(by cases h),fun n h=>(by cases h),fun n h=>(by cases h)⟩ h;refine⟨g.closed.good m hm nm hf,fun u=>⟨fun hu=>?_,fun hl=>Ya mem vis ok g.closed hl m hm hf⟩⟩;rcases g.dn u hu with h1|h1
 ·exact absurd h1 (hs u)
 ·exact h1
end
section
variable {I:List (Int×Rg)} {X:List Bx}
theorem vals(p:Nat->Int)(e:Int):aPH p 2 e 2=e/\aPH p 2 e 3=p 3/\aPH p 2 e 4=p 4:=⟨rfl,rfl,rfl⟩
end
end Go.Proofs.YtnomkooikbhgmaaGreatDoor
