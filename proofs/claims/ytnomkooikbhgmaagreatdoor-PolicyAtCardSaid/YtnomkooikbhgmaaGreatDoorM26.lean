/- Lemmas. -/
import Derived.Test.YtnomkooikbhgmaaGreatDoorProg
import Derived.Test.YtnomkooikbhgmaaGreatDoorM25
set_option linter.unusedVariables false
set_option linter.unusedSimpArgs false
set_option maxRecDepth 100000
set_option maxHeartbeats 4000000
noncomputable section
namespace Go.Proofs.YtnomkooikbhgmaaGreatDoor
open Go Go.Vm
theorem cwFol1(d:Df)(s:ByteArray){K:KT}(hK:K (.sb (sEq d.name s)) []):AC 307 [encDf d,.fp [.v (.string s)]] [] K:=by
 refine ofwFol1 rfl rfl ?_;(repeat' ((conv=>whnf);first|refine zG ?_|apply zA|intro h|exact zT));all_goals conv=>whnf
 exact hK
theorem cwIxD(l:List Df)(s:ByteArray)(hl:l.length<1000000){K:KT}(hK:K (.v (.int .i64 (firstIx (fun d=>sEq d.name s) l))) []):
  AC 257 [.lst (l.map encDf),.fn (.func 307) [] [.fp [.v (.string s)]]] [] K:=by
 refine ofwIxD rfl rfl ?_;(repeat' ((conv=>whnf);first|refine zG ?_|apply zA|intro h|exact zT));all_goals conv=>whnf
 refine gL Nat (fun k=>⟨0,[],[(0,.lst (l.map encDf)),(1,.fn (.func 307) [] [.fp [.v (.string s)]]),(7,.v (.int .i64 (l.map encDf).length)),(8,.v (.int .i64 k))]⟩) (fun k=>k<=l.length/\∀(i:Nat) y,i<k->l[i]? =some y->sEq y.name s=false) (fun k=>l.length-k) 0 ⟨aK _,fun i y hi=>absurd hi (bC _)⟩ ?_ ?_
 ·exact leA
 intro k ⟨hk,hinv⟩;rcases aF k l.length with hkl|hkl
 ·obtain⟨r,hr⟩:=gex hkl;(repeat' ((conv=>whnf);first|(with_reducible first|refine hU hkl ?_|refine hJ hr ?_|refine cwFol1 r s ?_)|refine zG ?_|apply zA|intro h|exact zT));all_goals conv=>whnf
  ·rw[firstIx_at hr h hinv]at hK;exact hK
  ·refine⟨k+1,⟨by omega,before_succ hr h hinv⟩,by omega,?_⟩;rw[aO,aN];exact leA
 ·(repeat' ((conv=>whnf);first|refine zG ?_|apply zA|intro h|exact zT));all_goals conv=>whnf
  rw[firstIx_none (iB hkl hinv)]at hK;exact hK
def ixs(p:Ed->Bool)(l:List Ed)(k:Nat):List Nat:=(List.range k).filter fun i=>match l[i]? with
 |some e=>p e
 |none=>false
theorem ixs_succ(p:Ed->Bool){l:List Ed}{k:Nat}{e:Ed}(h:l[k]? =some e):ixs p l (k+1)=ixs p l k++if p e=true then [k]else []:=by
 rw[ixs,fK,dF,<-ixs]
 congr 1
 rw[eY,List.filter_nil];simp only[h]
theorem ixs_len(p:Ed->Bool)(l:List Ed)(k:Nat):(ixs p l k).length<=k:=by
 have:=dL (fun i=>match l[i]? with
  |some e=>p e
  |none=>false) (List.range k)
 rw[fM]at this;exact this
theorem ixs_lt{p:Ed->Bool}{l:List Ed}{k n:Nat}(h:n∈ixs p l k):n<k/\∃e,l[n]? =some e/\p e=true:=by
 rw[ixs,cJ,dN]at h;refine⟨h.1,?_⟩;cases he:l[n]? with
 |none=>simp[he]at h
 |some e=>exact⟨e,rfl,by simpa[he]using h.2⟩
theorem cwZone1(e:Ed)(s:ByteArray){K:KT}(hK:K (.sb (sEq e.zone s)) []):AC 288 [encE e,.fp [.v (.string s)]] [] K:=by
 refine ofwZone1 rfl rfl ?_;(repeat' ((conv=>whnf);first|refine zG ?_|apply zA|intro h|exact zT));all_goals conv=>whnf
 exact hK
theorem cwIdx(t:Tp)(s:ByteArray)(hl:t.edges.length<1000){K:KT}(hK:K (.lst ((ixs (fun e=>sEq e.zone s) t.edges t.edges.length).map vN)) []):
  AC 287 [encT t,.fn (.func 288) [] [.fp [.v (.string s)]]] [] K:=by
 refine ofwIdx rfl rfl ?_;(repeat' ((conv=>whnf);first|refine zG ?_|apply zA|intro h|exact zT));all_goals conv=>whnf
 refine gL (Nat×List Nat) (fun g=>⟨2,[(1,.arr 1 (g.2.map vN))],[(1,.fn (.func 288) [] [.fp [.v (.string s)]]),(5,.os 1 1 0 g.2.length),(9,.lst (t.edges.map encE)),(10,.v (.int .i64 (t.edges.map encE).length)),(11,.v (.int .i64 g.1))]⟩)
  (fun g=>g.1<=t.edges.length/\g.2=ixs (fun e=>sEq e.zone s) t.edges g.1) (fun g=>t.edges.length-g.1) (0,[]) ⟨aK _,rfl⟩ ?_ ?_
 ·exact leA
 rintro⟨k,out⟩ ⟨hk,ho⟩
 simp only at hk ho⊢;have hol:out.length<=k:=by rw[ho];exact ixs_len _ _ _
 rcases aF k t.edges.length with hkl|hkl
 ·obtain⟨e,he⟩:=gex hkl;have hs:=ixs_succ (fun e=>sEq e.zone s) he;rw[<-ho]at hs;(repeat' ((conv=>whnf);first|(with_reducible first|refine hU hkl ?_|refine hJ he ?_|refine cwZone1 e s ?_)|refine zG ?_|apply zA|intro h|exact zT));all_goals conv=>whnf
  ·refine⟨(k+1,out++[k]),⟨hkl,by rw[hs,aG h]⟩,by simp only;omega,?_⟩;simp only[aQ,aC,aR,bL,aB,aH,aO,aN];exact leA
  ·refine⟨(k+1,out),⟨hkl,by rw[hs,aD (by simp[h]),bF]⟩,by simp only;omega,?_⟩;simp only[aO,aN];exact leA
 ·obtain rfl:k=t.edges.length:=by omega
  rw[<-ho]at hK;(repeat' ((conv=>whnf);first|(with_reducible refine sl_full (aA ..) ?_)|refine zG ?_|apply zA|intro h|exact zT));all_goals conv=>whnf
  exact hK
theorem cwZone(t:Tp)(s:ByteArray)(hl:t.edges.length<1000){K:KT}(hK:K (.lst ((ixs (fun e=>sEq e.zone s) t.edges t.edges.length).map vN)) []):AC 221 [encT t,.v (.string s)] [] K:=by
 refine ofwZone rfl rfl ?_;(repeat' ((conv=>whnf);first|(with_reducible refine cwIdx t s hl ?_)|refine zG ?_|apply zA|intro h|exact zT));all_goals conv=>whnf
 exact hK
abbrev outO(i n:Nat):Vm.Obj:=.box [.os i 2 0 n]
abbrev arrO(rs:List Rg):Vm.Obj:=.arr 2 (rs.map encR)
theorem cwAdd(p:Pf)(rs:List Rg)(hl:rs.length<1000000000000){K:KT}(hK:K (.tup []) [outO 2 (rs++[p.rg]).length,.box [],arrO (rs++[p.rg])]):
  AC 217 [encP p,.op 0 0] [outO 1 rs.length,arrO rs] K:=by
 refine ofwG1 rfl rfl ?_;(repeat' ((conv=>whnf);first|(with_reducible refine cpOf p ?_)|refine zG ?_|apply zA|intro h|exact zT));all_goals conv=>whnf
 simp only[outO,arrO,aC,aQ]at hK;exact hK
def rgAt(t:Tp)(i:Nat):Rg:=match t.edges[i]? with
 |some e=>e.pf.rg
 |none=>⟨0,0,by decide,by decide,by decide,by decide⟩
def visG(t:Tp)(x:It)(rs:List Rg):Int×List Rg:=
 if x.kind=2 then(0,rs++[x.pf.rg])else if ixs (fun e=>sEq e.zone x.name) t.edges t.edges.length=[]then(5,rs)else(0,rs++(ixs (fun e=>sEq e.zone x.name) t.edges t.edges.length).map (rgAt t))
abbrev adO(i:Nat):Vm.Obj:=.box [.fn (.func 217) [] [.op i 0]]
theorem cwVis(t:Tp)(x:It)(rs:List Rg)(hl:t.edges.length<1000)(hr:rs.length<100000000000){K:KT}(hK:K (.v (.int .i64 (visG t x rs).1)) [adO 2,boxT t,outO 4 (visG t x rs).2.length,.box [],arrO (visG t x rs).2]):
  AC 220 [encIt x,.op 0 0,.op 1 0] [adO 2,boxT t,outO 3 rs.length,arrO rs] K:=by
 refine ofwG2 rfl rfl ?_;(repeat' ((conv=>whnf);first|(with_reducible first|refine cwAdd x.pf rs zo ?_|refine cwZone t x.name hl ?_)|refine zG ?_|apply zA|intro h|exact zT));all_goals conv=>whnf
 ·rw[visG,aG h]at hK;exact hK
 ·have h0:ixs (fun e=>sEq e.zone x.name) t.edges t.edges.length=[]:=bY.1 (by rw[aA]at h;omega);rw[visG,aD zp,aG h0]at hK;exact hK
 have hne:ixs (fun e=>sEq e.zone x.name) t.edges t.edges.length≠[]:=fun e=>h (by rw[e];rfl);rw[visG,aD zp,aD hne]at hK;have hlt:=fun n hn=>@ixs_lt (fun e=>sEq e.zone x.name) t.edges t.edges.length n hn;have hll:=ixs_len (fun e=>sEq e.zone x.name) t.edges t.edges.length;generalize ixs (fun e=>sEq e.zone x.name) t.edges t.edges.length=L at*;refine gL (Nat×List Rg) (fun g=>⟨5,[(0,adO 2),(1,boxT t),(2,outO 4 g.2.length),(4,arrO g.2)],[(1,.op 0 0),(2,.op 1 0),(22,.lst (L.map vN)),(23,.v (.int .i64 (L.map vN).length)),(24,.v (.int .i64 g.1))]⟩)
  (fun g=>g.1<=L.length/\g.2=rs++(L.take g.1).map (rgAt t)) (fun g=>L.length-g.1) (0,rs) ⟨aK _,by simp⟩ ?_ ?_
 ·exact leA
 rintro⟨k,out⟩ ⟨hk,ho⟩
 simp only at hk ho⊢;have hol:out.length=rs.length+k:=by rw[ho,aC,aA,bA];omega
 rcases aF k L.length with hkl|hkl
 ·obtain⟨n,hn⟩:=gex hkl;obtain⟨hnl,e,he,_⟩:=hlt n (aI hn);have hrg:rgAt t n=e.pf.rg:=by rw[rgAt,he]
  (repeat' ((conv=>whnf);first|(with_reducible first|refine hU hkl ?_|refine hJ hn ?_|refine hU hnl ?_|refine hJ he ?_|refine cwAdd e.pf out zo ?_)|refine zG ?_|apply zA|intro h|exact zT));all_goals conv=>whnf
  refine⟨(k+1,out++[e.pf.rg]),⟨hkl,?_⟩,by simp only;omega,?_⟩
  ·simp only;rw[ho,bI,hn,aQ,cN];simp[hrg]
  ·simp only[aO,aN];exact leA
 ·have hke:k=L.length:=by omega
  rw[hke,dD]at ho;rw[<-ho]at hK;(repeat' ((conv=>whnf);first|refine zG ?_|apply zA|intro h|exact zT));all_goals conv=>whnf
  exact hK
abbrev foO(l:List Df):Vm.Obj:=.box [.lst (l.map encDf),.mp 1,.mp 2,.fn (.func 220) [] [.op 3 0,.op 4 0]]
theorem visG_sz{t:Tp}(ht:t.edges.length<1000)(x:It)(rs:List Rg)(h:(visG t x rs).1=0):(visG t x rs).2.length<=rs.length+1000:=by
 unfold visG at h⊢;have hll:=ixs_len (fun e=>sEq e.zone x.name) t.edges t.edges.length;split
 ·rw[aC];simp
 ·split
  ·simp
  ·rw[aC,aA];omega
theorem cwFol(t:Tp)(ht:t.edges.length<1000)(l:List Df)(hl:l.length<=999)(hit:∀d,d∈l->d.items.length<=999):∀(k:Nat) (p:List Nat) (nm:ByteArray) (d:List Nat) (rs:List Rg),Fine l p d->p.length+k=l.length+1->rs.length<=1000000*(d.length+p.length)->∀{K:KT},
  K (.v (.int .i64 (fol (visG t) l k p nm d rs).1)) [foO l,.map (nameM l p),.map (nameM l (fol (visG t) l k p nm d rs).2.1),adO 5,boxT t,outO 7 (fol (visG t) l k p nm d rs).2.2.length,.box [],arrO (fol (visG t) l k p nm d rs).2.2]->
  AC 286 [.op 0 0,.v (.string nm)] [foO l,.map (nameM l p),.map (nameM l d),adO 5,boxT t,outO 6 rs.length,arrO rs] K
 |0,p,nm,d,rs,hf,hk,hrs,K,hK=>by
  have:=hf.small;omega
 |k+1,p,nm,d,rs,hf,hk,hrs,K,hK=>by
  refine ofwFol rfl rfl ?_;have hsm:=hf.small;cases hn:findD l nm with
  |none=>
   have hix:∀{K:KT},K (.v (.int .i64 (-1))) []->AC 257 [.lst (l.map encDf),.fn (.func 307) [] [.fp [.v (.string nm)]]] [] K:=fun {K} h=>
    cwIxD l nm zo (by rw[firstIx_find,hn];exact h)
   simp only[fol,hn]at hK;(repeat' ((conv=>whnf);first|(with_reducible refine hix ?_)|refine zG ?_|apply zA|intro h|exact zT));all_goals conv=>whnf
   exact hK
  |some n=>
   obtain⟨df,hdf,hname,hnl⟩:=findD_some hn;have hix:∀{K:KT},K (.v (.int .i64 n)) []->AC 257 [.lst (l.map encDf),.fn (.func 307) [] [.fp [.v (.string nm)]]] [] K:=fun {K} h=>
    cwIxD l nm zo (by rw[firstIx_find,hn];exact h)
   by_cases hp:n∈p
   ·simp only[fol,hn,aG hp]at hK;(repeat' ((conv=>whnf);first|(with_reducible first|refine hix ?_|refine mg_some (nameM_in hn hp) ?_)|refine zG ?_|apply zA|intro h|exact zT));all_goals conv=>whnf
    exact hK
   by_cases hd:n∈d
   ·simp only[fol,hn,aD hp,aG hd]at hK;(repeat' ((conv=>whnf);first|(with_reducible first|refine hix ?_|refine mg_none (nameM_out hf.pf hn hp) ?_|refine mg_some (nameM_in hn hd) ?_)|refine zG ?_|apply zA|intro h|exact zT));all_goals conv=>whnf
    exact hK
   simp only[fol,hn,aD hp,aD hd,hdf,cS,cG]at hK;(repeat' ((conv=>whnf);first|(with_reducible first|refine hix ?_|refine mg_none (nameM_out hf.pf hn hp) ?_|refine mg_none (nameM_out hf.df hn hd) ?_|refine gZ (updM_name hn) ?_|refine hU hnl ?_|refine hJ hdf ?_)|refine zG ?_|apply zA|intro h|exact zT));all_goals conv=>whnf
   have hpush:=hf.push hn hp hd;have hfed:=fun(q:Nat) nm d s h h0=>fol_fed (visG t) List.length (visG_sz ht) l hit q (p++[n]) nm d s h h0;have hlen:=hit df (aI hdf);refine gL (Nat×List Nat×List Rg) (fun g=>⟨9,[(0,foO l),(1,.map (nameM l (p++[n]))),(2,.map (nameM l g.2.1)),(3,adO 5),(4,boxT t),(5,outO 7 g.2.2.length),(7,arrO g.2.2),(8,.box [.v (.string nm)])],[(0,.op 0 0),(3,.op 8 0),(49,.lst (df.items.map encIt)),(50,.v (.int .i64 (df.items.map encIt).length)),(51,.v (.int .i64 g.1)),(DS,.dfr 1 nm)]⟩)
    (fun g=>g.1<=df.items.length/\Fine l (p++[n]) g.2.1/\folI (visG t) (fol (visG t) l k (p++[n])) df.items d rs=folI (visG t) (fol (visG t) l k (p++[n])) (df.items.drop g.1) g.2.1 g.2.2/\d.length<=g.2.1.length/\g.2.2.length+1000000*d.length<=rs.length+1000000*g.2.1.length+1000*g.1)
    (fun g=>df.items.length-g.1) (0,d,rs) ⟨aK _,hpush,by rw[bZ],aM _,by simp only;omega⟩ ?_ ?_
   ·exact leA
   rintro⟨i,d1,rs1⟩ ⟨hi,hf1,heq,hd1,hsz⟩
   simp only at hi hf1 heq hd1 hsz⊢;rcases aF i df.items.length with hil|hil
   ·obtain⟨x,hx⟩:=gex hil;have hdr:df.items.drop i=x::df.items.drop (i+1):=by
     rw[bB hil]
     congr 1
     rw[aE hil]at hx;cases hx;rfl
    rw[hdr,folI_cons]at heq;have hsm1:=hf1.small;rw[aC,cP]at hsm1;by_cases hk3:x.kind=3
    ·simp only[aG hk3]at heq;have hc:=fun {K} h=>@cwFol t ht l hl hit k (p++[n]) x.name d1 rs1 hf1 (by rw[aC];simp only[cP];omega) (by rw[aC];simp only[cP];omega) K h;have hfq:=hfed k x.name d1 rs1 hf1;generalize fol (visG t) l k (p++[n]) x.name d1 rs1=q at*;obtain⟨qe,qd,qs⟩:=q;simp only at heq hc hfq;(repeat' ((conv=>whnf);first|(with_reducible first|refine hU hil ?_|refine hJ hx ?_|refine hc ?_|refine gZ (delM_name hf.pf hn hp) ?_)|refine zG ?_|apply zA|intro h|exact zT));all_goals conv=>whnf
     all_goals first
      |(have hne:¬qe=0:=by first|assumption|(intro e;simp_all;done)
        rw[heq,aD hne]at hK;simp only[aD hne]at hK;exact hK)
      |(have h0:qe=0:=by first|assumption|(simp_all;done)
        have hfq:=hfq h0;refine⟨(i+1,qd,qs),⟨hil,hfq.fine,by rw[heq,aG h0],by have:=hfq.le;simp only;omega,by have:=hfq.size;simp only;omega⟩,by simp only;omega,?_⟩;simp only[aO,aN];exact leA)
    ·simp only[aD hk3]at heq;have hc:=fun {K} h=>@cwVis t x rs1 ht zo K h;have hvz:=visG_sz ht x rs1;generalize visG t x rs1=q at*;obtain⟨qe,qs⟩:=q;simp only at heq hc hvz;(repeat' ((conv=>whnf);first|(with_reducible first|refine hU hil ?_|refine hJ hx ?_|refine hc ?_|refine gZ (delM_name hf.pf hn hp) ?_)|refine zG ?_|apply zA|intro h|exact zT));all_goals conv=>whnf
     all_goals first
      |(have hne:¬qe=0:=by first|assumption|(intro e;simp_all;done)
        rw[heq,aD hne]at hK;simp only[aD hne]at hK;exact hK)
      |(have h0:qe=0:=by first|assumption|(simp_all;done)
        have hvz:=hvz h0;refine⟨(i+1,d1,qs),⟨hil,hf1,by rw[heq,aG h0],by skip;simp only;omega,by skip;simp only;omega⟩,by simp only;omega,?_⟩;simp only[aO,aN];exact leA)
   ·have hie:i=df.items.length:=by omega
    rw[hie,List.drop_length,folI_nil]at heq;rw[heq]at hK;simp only[if_true]at hK;(repeat' ((conv=>whnf);first|(with_reducible first|refine gZ (updM_name hn) ?_|refine gZ (delM_name hf.pf hn hp) ?_)|refine zG ?_|apply zA|intro h|exact zT));all_goals conv=>whnf
    exact hK
abbrev itO(i n:Nat):Vm.Obj:=.box [.os i 7 0 n]
abbrev arI(its:List It):Vm.Obj:=.arr 7 (its.map encIt)
def visS(x:It)(its:List It):Int×List It:=(0,its++[x])
theorem visS_sz(x:It)(its:List It)(h:(visS x its).1=0):(visS x its).2.length<=its.length+1000:=by
 simp[visS]
theorem cwAdI(x:It)(its:List It)(hl:its.length<100000000000){K:KT}(hK:K (.v (.int .i64 (visS x its).1)) [itO 2 (visS x its).2.length,.box [],arI (visS x its).2]):
  AC 222 [encIt x,.op 0 0] [itO 1 its.length,arI its] K:=by
 refine ofwS1 rfl rfl ?_;(repeat' ((conv=>whnf);first|refine zG ?_|apply zA|intro h|exact zT));all_goals conv=>whnf
 simp only[visS,itO,arI,aC,aQ]at hK;exact hK
abbrev fsO(l:List Df):Vm.Obj:=.box [.lst (l.map encDf),.mp 1,.mp 2,.fn (.func 222) [] [.op 3 0]]
theorem cwFos(l:List Df)(hl:l.length<=999)(hit:∀d,d∈l->d.items.length<=999):∀(k:Nat) (p:List Nat) (nm:ByteArray) (d:List Nat) (rs:List It),Fine l p d->p.length+k=l.length+1->rs.length<=1000000*(d.length+p.length)->∀{K:KT},
  K (.v (.int .i64 (fol (visS) l k p nm d rs).1)) [fsO l,.map (nameM l p),.map (nameM l (fol (visS) l k p nm d rs).2.1),itO 5 (fol (visS) l k p nm d rs).2.2.length,.box [],arI (fol (visS) l k p nm d rs).2.2]->
  AC 286 [.op 0 0,.v (.string nm)] [fsO l,.map (nameM l p),.map (nameM l d),itO 4 rs.length,arI rs] K
 |0,p,nm,d,rs,hf,hk,hrs,K,hK=>by
  have:=hf.small;omega
 |k+1,p,nm,d,rs,hf,hk,hrs,K,hK=>by
  refine ofwFos rfl rfl ?_;have hsm:=hf.small;cases hn:findD l nm with
  |none=>
   have hix:∀{K:KT},K (.v (.int .i64 (-1))) []->AC 257 [.lst (l.map encDf),.fn (.func 307) [] [.fp [.v (.string nm)]]] [] K:=fun {K} h=>
    cwIxD l nm zo (by rw[firstIx_find,hn];exact h)
   simp only[fol,hn]at hK;(repeat' ((conv=>whnf);first|(with_reducible refine hix ?_)|refine zG ?_|apply zA|intro h|exact zT));all_goals conv=>whnf
   exact hK
  |some n=>
   obtain⟨df,hdf,hname,hnl⟩:=findD_some hn;have hix:∀{K:KT},K (.v (.int .i64 n)) []->AC 257 [.lst (l.map encDf),.fn (.func 307) [] [.fp [.v (.string nm)]]] [] K:=fun {K} h=>
    cwIxD l nm zo (by rw[firstIx_find,hn];exact h)
   by_cases hp:n∈p
   ·simp only[fol,hn,aG hp]at hK;(repeat' ((conv=>whnf);first|(with_reducible first|refine hix ?_|refine mg_some (nameM_in hn hp) ?_)|refine zG ?_|apply zA|intro h|exact zT));all_goals conv=>whnf
    exact hK
   by_cases hd:n∈d
   ·simp only[fol,hn,aD hp,aG hd]at hK;(repeat' ((conv=>whnf);first|(with_reducible first|refine hix ?_|refine mg_none (nameM_out hf.pf hn hp) ?_|refine mg_some (nameM_in hn hd) ?_)|refine zG ?_|apply zA|intro h|exact zT));all_goals conv=>whnf
    exact hK
   simp only[fol,hn,aD hp,aD hd,hdf,cS,cG]at hK;(repeat' ((conv=>whnf);first|(with_reducible first|refine hix ?_|refine mg_none (nameM_out hf.pf hn hp) ?_|refine mg_none (nameM_out hf.df hn hd) ?_|refine gZ (updM_name hn) ?_|refine hU hnl ?_|refine hJ hdf ?_)|refine zG ?_|apply zA|intro h|exact zT));all_goals conv=>whnf
   have hpush:=hf.push hn hp hd;have hfed:=fun(q:Nat) nm d s h h0=>fol_fed (visS) List.length visS_sz l hit q (p++[n]) nm d s h h0;have hlen:=hit df (aI hdf);refine gL (Nat×List Nat×List It) (fun g=>⟨7,[(0,fsO l),(1,.map (nameM l (p++[n]))),(2,.map (nameM l g.2.1)),(3,itO 5 g.2.2.length),(5,arI g.2.2),(6,.box [.v (.string nm)])],[(0,.op 0 0),(3,.op 6 0),(49,.lst (df.items.map encIt)),(50,.v (.int .i64 (df.items.map encIt).length)),(51,.v (.int .i64 g.1)),(DS,.dfr 1 nm)]⟩)
    (fun g=>g.1<=df.items.length/\Fine l (p++[n]) g.2.1/\folI (visS) (fol (visS) l k (p++[n])) df.items d rs=folI (visS) (fol (visS) l k (p++[n])) (df.items.drop g.1) g.2.1 g.2.2/\d.length<=g.2.1.length/\g.2.2.length+1000000*d.length<=rs.length+1000000*g.2.1.length+1000*g.1)
    (fun g=>df.items.length-g.1) (0,d,rs) ⟨aK _,hpush,by rw[bZ],aM _,by simp only;omega⟩ ?_ ?_
   ·exact leA
   rintro⟨i,d1,rs1⟩ ⟨hi,hf1,heq,hd1,hsz⟩
   simp only at hi hf1 heq hd1 hsz⊢;rcases aF i df.items.length with hil|hil
   ·obtain⟨x,hx⟩:=gex hil;have hdr:df.items.drop i=x::df.items.drop (i+1):=by
     rw[bB hil]
     congr 1
     rw[aE hil]at hx;cases hx;rfl
    rw[hdr,folI_cons]at heq;have hsm1:=hf1.small;rw[aC,cP]at hsm1;by_cases hk3:x.kind=3
    ·simp only[aG hk3]at heq;have hc:=fun {K} h=>@cwFos l hl hit k (p++[n]) x.name d1 rs1 hf1 (by rw[aC];simp only[cP];omega) (by rw[aC];simp only[cP];omega) K h;have hfq:=hfed k x.name d1 rs1 hf1;generalize fol (visS) l k (p++[n]) x.name d1 rs1=q at*;obtain⟨qe,qd,qs⟩:=q;simp only at heq hc hfq;(repeat' ((conv=>whnf);first|(with_reducible first|refine hU hil ?_|refine hJ hx ?_|refine hc ?_|refine gZ (delM_name hf.pf hn hp) ?_)|refine zG ?_|apply zA|intro h|exact zT));all_goals conv=>whnf
     all_goals first
      |(have hne:¬qe=0:=by first|assumption|(intro e;simp_all;done)
        rw[heq,aD hne]at hK;simp only[aD hne]at hK;exact hK)
      |(have h0:qe=0:=by first|assumption|(simp_all;done)
        have hfq:=hfq h0;refine⟨(i+1,qd,qs),⟨hil,hfq.fine,by rw[heq,aG h0],by have:=hfq.le;simp only;omega,by have:=hfq.size;simp only;omega⟩,by simp only;omega,?_⟩;simp only[aO,aN];exact leA)
    ·simp only[aD hk3]at heq;have hc:=fun {K} h=>@cwAdI x rs1 zo K h;have hvz:=visS_sz x rs1;generalize visS x rs1=q at*;obtain⟨qe,qs⟩:=q;simp only at heq hc hvz;(repeat' ((conv=>whnf);first|(with_reducible first|refine hU hil ?_|refine hJ hx ?_|refine hc ?_|refine gZ (delM_name hf.pf hn hp) ?_)|refine zG ?_|apply zA|intro h|exact zT));all_goals conv=>whnf
     all_goals first
      |(have hne:¬qe=0:=by first|assumption|(intro e;simp_all;done)
        rw[heq,aD hne]at hK;simp only[aD hne]at hK;exact hK)
      |(have h0:qe=0:=by first|assumption|(simp_all;done)
        have hvz:=hvz h0;refine⟨(i+1,d1,qs),⟨hil,hf1,by rw[heq,aG h0],by skip;simp only;omega,by skip;simp only;omega⟩,by simp only;omega,?_⟩;simp only[aO,aN];exact leA)
   ·have hie:i=df.items.length:=by omega
    rw[hie,List.drop_length,folI_nil]at heq;rw[heq]at hK;simp only[if_true]at hK;(repeat' ((conv=>whnf);first|(with_reducible first|refine gZ (updM_name hn) ?_|refine gZ (delM_name hf.pf hn hp) ?_)|refine zG ?_|apply zA|intro h|exact zT));all_goals conv=>whnf
    exact hK
def insRev{α:Type}(lt:α->α->Bool):List α->α->List α
 |[],x=>[x]
 |y::ys,x=>if lt x y then y::insRev lt ys x else x::y::ys
def sortRev{α:Type}(lt:α->α->Bool)(l:List α):List α:=l.foldl (insRev lt) []
def isort{α:Type}(lt:α->α->Bool)(l:List α):List α:=(sortRev lt l).reverse
theorem insRev_at{α:Type}{lt:α->α->Bool}{x:α}:∀{B A:List α},(∀y,y∈B->lt x y=true)->(∀a A',A=a::A'->lt x a=false)->insRev lt (B++A) x=B++x::A
 |[],[],_,_=>rfl
 |[],a::A,_,h=>by simp[insRev,h a A rfl]
 |b::B,A,h1,h2=>by
  simp only[fU,insRev,h1 b zx,if_true];rw[insRev_at (fun y hy=>h1 y (by simp[hy])) h2]
theorem insRev_length{α:Type}(lt:α->α->Bool):∀(l:List α) (x:α),(insRev lt l x).length=l.length+1
 |[],x=>rfl
 |y::ys,x=>by
  simp only[insRev];split
  ·simp[insRev_length lt ys x]
  ·simp
theorem insRev_mem{α:Type}{lt:α->α->Bool}{z:α}:∀{l:List α} {x:α},z∈insRev lt l x↔z=x\/z∈l
 |[],x=>by simp[insRev]
 |y::ys,x=>by
  simp only[insRev];split
  ·simp only[aU,insRev_mem (l:=ys)];constructor
   ·rintro(h|h|h)<;>simp[h]
   ·rintro(h|h|h)<;>simp[h]
  ·simp
theorem sortRev_succ{α:Type}{lt:α->α->Bool}{l:List α}{k:Nat}{x:α}(h:l[k]? =some x):sortRev lt (l.take (k+1))=insRev lt (sortRev lt (l.take k)) x:=by
 simp[sortRev,bI,h]
theorem foldl_ins_length{α:Type}(lt:α->α->Bool):∀(l acc:List α),(l.foldl (insRev lt) acc).length=acc.length+l.length
 |[],acc=>rfl
 |x::l,acc=>by rw[dW,foldl_ins_length lt l,insRev_length,aB];omega
theorem sortRev_length{α:Type}(lt:α->α->Bool)(l:List α):(sortRev lt l).length=l.length:=by
 rw[sortRev,foldl_ins_length];simp
theorem foldl_ins_mem{α:Type}{lt:α->α->Bool}{z:α}:∀{l acc:List α},z∈l.foldl (insRev lt) acc↔z∈l\/z∈acc
 |[],acc=>by simp
 |x::l,acc=>by
  rw[dW,foldl_ins_mem (l:=l),insRev_mem,aU];constructor
  ·rintro(h|h|h)<;>simp[h]
  ·rintro((h|h)|h)<;>simp[h]
theorem isort_length{α:Type}(lt:α->α->Bool)(l:List α):(isort lt l).length=l.length:=by rw[isort,List.length_reverse,sortRev_length]
theorem insRev_perm{α:Type}(lt:α->α->Bool):∀(l:List α) (x:α),(insRev lt l x).Perm (x::l)
 |[],x=>.refl _
 |y::ys,x=>by
  simp only[insRev];split
  ·exact((insRev_perm lt ys x).cons y).trans (.swap x y ys)
  ·exact .refl _
theorem foldl_ins_perm{α:Type}(lt:α->α->Bool):∀(l acc:List α),(l.foldl (insRev lt) acc).Perm (l++acc)
 |[],acc=>.refl _
 |x::l,acc=>by
  rw[dW];refine(foldl_ins_perm lt l _).trans ?_;refine(List.Perm.append_left l (insRev_perm lt acc x)).trans ?_;exact List.perm_middle
theorem isort_perm{α:Type}(lt:α->α->Bool)(l:List α):(isort lt l).Perm l:=by
 unfold isort sortRev;exact(List.reverse_perm _).trans (by simpa using foldl_ins_perm lt l [])
def gnCont:Ctx:={N:=18,plan:=p1 4 Ab pn}
abbrev ofnCont:=ofD gnCont Tryz.func50
theorem fineNil(l:List Df):Fine l [] []:=⟨List.Pairwise.nil,List.Pairwise.nil,Firsts.nil,Firsts.nil,fun n h=>(by cases h),fun n h=>(by cases h),fun n h=>(by cases h)⟩
inductive Lead {U:Type} (l:List Df) (vis:It->U->Prop):ByteArray->U->Prop
 |here {nm:ByteArray} {n:Nat} {d:Df} {x:It} {u:U} (h1:findD l nm=some n) (h2:l[n]? =some d) (h3:x∈d.items) (h4:x.kind≠3) (h5:vis x u):Lead l vis nm u
 |there {nm:ByteArray} {n:Nat} {d:Df} {x:It} {u:U} (h1:findD l nm=some n) (h2:l[n]? =some d) (h3:x∈d.items) (h4:x.kind=3) (h5:Lead l vis x.name u):Lead l vis nm u
inductive Good (l:List Df) (ok:It->Bool):ByteArray->Prop
 |mk {nm:ByteArray} {n:Nat} {d:Df} (h1:findD l nm=some n) (h2:l[n]? =some d) (h3:∀x,x∈d.items->x.kind≠3->ok x=true) (h4:∀x,x∈d.items->x.kind=3->Good l ok x.name):Good l ok nm
inductive Need (l:List Df):Nat->Nat->Prop
 |one {n m:Nat} {d:Df} {x:It} (h1:l[n]? =some d) (h2:x∈d.items) (h3:x.kind=3) (h4:findD l x.name=some m):Need l n m
 |more {n m k:Nat} (h1:Need l n m) (h2:Need l m k):Need l n k
theorem Need.first{l:List Df}{n k:Nat}(h:Need l n k):∃d x m,l[n]? =some d/\x∈d.items/\x.kind=3/\findD l x.name=some m/\(m=k\/Need l m k):=by
 induction h with
 |one h1 h2 h3 h4=>exact⟨_,_,_,h1,h2,h3,h4,.inl rfl⟩
 |more h1 h2 ih1 ih2=>
  obtain⟨d,x,m,g1,g2,g3,g4,g5⟩:=ih1;refine⟨d,x,m,g1,g2,g3,g4,.inr ?_⟩;rcases g5 with rfl|g5
  ·exact h2
  ·exact .more g5 h2
section
variable {S U:Type} (v:It->S->Int×S) (mem:S->U->Prop) (vis:It->U->Prop) (ok:It->Bool)
structure Vis:Prop where
 add:∀x s,(v x s).1=0->∀u,mem (v x s).2 u↔(mem s u\/vis x u)
 ok:∀x s,(v x s).1=0↔ok x=true
structure Closed (l:List Df) (d:List Nat) (s:S):Prop where
 it:∀n,n∈d->∀df,l[n]? =some df->∀x,x∈df.items->x.kind≠3->∀u,vis x u->mem s u
 nm:∀n,n∈d->∀df,l[n]? =some df->∀x,x∈df.items->x.kind=3->∃m,m∈d/\findD l x.name=some m
 good:∀n,n∈d->∀nm,findD l nm=some n->Good l ok nm
structure Fol (l:List Df) (p:List Nat) (d:List Nat) (s:S) (d':List Nat) (s':S) (new:U->Prop):Prop where
 fine:Fine l p d'
 closed:Closed mem vis ok l d' s'
 sub:∀n,n∈d->n∈d'
 up:∀u,mem s u->mem s' u
 dn:∀u,mem s' u->mem s u\/new u
theorem lead_done{l:List Df}{d:List Nat}{s:S}(h:Closed mem vis ok l d s){nm:ByteArray}{u:U}(hl:Lead l vis nm u):∀m,m∈d->findD l nm=some m->mem s u:=by
 induction hl with
 |here h1 h2 h3 h4 h5=>
  intro m hm hf;rw[h1]at hf;cases hf;exact h.it _ hm _ h2 _ h3 h4 _ h5
 |there h1 h2 h3 h4 h5 ih=>
  intro m hm hf;rw[h1]at hf;cases hf;obtain⟨m',h6,h7⟩:=h.nm _ hm _ h2 _ h3 h4;exact ih m' h6 h7
variable (hv:Vis v mem vis ok)
include hv
theorem folI_fol{l:List Df}{p:List Nat}{rec:ByteArray->List Nat->S->Int×List Nat×S}
  (hrec:∀nm d s,Fine l p d->Closed mem vis ok l d s->(rec nm d s).1=0->Fol mem vis ok l p d s (rec nm d s).2.1 (rec nm d s).2.2 (Lead l vis nm)/\∃m,m∈(rec nm d s).2.1/\findD l nm=some m):
  ∀(its:List It) (d:List Nat) (s:S),Fine l p d->Closed mem vis ok l d s->(folI v rec its d s).1=0->
  Fol mem vis ok l p d s (folI v rec its d s).2.1 (folI v rec its d s).2.2 (fun u=>∃x,x∈its/\((x.kind≠3/\vis x u)\/(x.kind=3/\Lead l vis x.name u)))/\
  (∀x,x∈its->x.kind≠3->ok x=true/\∀u,vis x u->mem (folI v rec its d s).2.2 u)/\∀x,x∈its->x.kind=3->∃m,m∈(folI v rec its d s).2.1/\findD l x.name=some m
 |[],d,s,hf,hc,_=>⟨⟨hf,hc,fun _ h=>h,fun _ h=>h,fun _ h=>.inl h⟩,fun x h=>(by cases h),fun x h=>(by cases h)⟩
 |x::r,d,s,hf,hc,h=>by
  rw[folI_cons]at h⊢;have hq:(if x.kind=3 then rec x.name d s else((v x s).1,d,(v x s).2)).1=0->
    Fol mem vis ok l p d s (if x.kind=3 then rec x.name d s else((v x s).1,d,(v x s).2)).2.1 (if x.kind=3 then rec x.name d s else((v x s).1,d,(v x s).2)).2.2 (fun u=>(x.kind≠3/\vis x u)\/(x.kind=3/\Lead l vis x.name u))/\
    (x.kind≠3->ok x=true/\∀u,vis x u->mem (if x.kind=3 then rec x.name d s else((v x s).1,d,(v x s).2)).2.2 u)/\(x.kind=3->∃m,m∈(if x.kind=3 then rec x.name d s else((v x s).1,d,(v x s).2)).2.1/\findD l x.name=some m):=by
   by_cases hk:x.kind=3
   ·rw[aG hk];intro h0;obtain⟨g,gm⟩:=hrec x.name d s hf hc h0;exact⟨⟨g.fine,g.closed,g.sub,g.up,fun u hu=>(g.dn u hu).imp id fun hl=>.inr ⟨hk,hl⟩⟩,fun hn=>absurd hk hn,fun _=>gm⟩
   ·rw[aD hk];intro h0;have ha:=hv.add x s h0;exact⟨⟨hf,⟨fun n hn df hdf y hy hy3 u hu=>(ha u).2 (.inl (hc.it n hn df hdf y hy hy3 u hu)),hc.nm,hc.good⟩,fun _ h=>h,fun u hu=>(ha u).2 (.inl hu),fun u hu=>((ha u).1 hu).imp id fun hx=>.inl ⟨hk,hx⟩⟩,
     fun _=>⟨(hv.ok x s).1 h0,fun u hu=>(ha u).2 (.inr hu)⟩,fun h3=>absurd h3 hk⟩
  generalize (if x.kind=3 then rec x.name d s else((v x s).1,d,(v x s).2))=q at*;by_cases h0:q.1=0
  ·rw[aG h0]at h⊢;obtain⟨g,g1,g2⟩:=hq h0;obtain⟨f,f1,f2⟩:=folI_fol hrec r q.2.1 q.2.2 g.fine g.closed h;refine⟨⟨f.fine,f.closed,fun n hn=>f.sub n (g.sub n hn),fun u hu=>f.up u (g.up u hu),fun u hu=>?_⟩,fun y hy hy3=>?_,fun y hy hy3=>?_⟩
   ·rcases f.dn u hu with h1|⟨y,hy,h1⟩
    ·rcases g.dn u h1 with h1|h1
     ·exact .inl h1
     ·exact .inr ⟨x,by simp,h1⟩
    ·exact .inr ⟨y,aS _ hy,h1⟩
   ·rcases aU.1 hy with rfl|hy
    ·exact⟨(g1 hy3).1,fun u hu=>f.up u ((g1 hy3).2 u hu)⟩
    ·exact f1 y hy hy3
   ·rcases aU.1 hy with rfl|hy
    ·obtain⟨m,hm,hfm⟩:=g2 hy3;exact⟨m,f.sub m hm,hfm⟩
    ·exact f2 y hy hy3
  ·rw[aD h0]at h;exact absurd h h0
theorem fol_fol(l:List Df):∀(k:Nat) (p:List Nat) (nm:ByteArray) (d:List Nat) (s:S),Fine l p d->Closed mem vis ok l d s->(fol v l k p nm d s).1=0->
  Fol mem vis ok l p d s (fol v l k p nm d s).2.1 (fol v l k p nm d s).2.2 (Lead l vis nm)/\∃m,m∈(fol v l k p nm d s).2.1/\findD l nm=some m
 |0,p,nm,d,s,hf,hc,h=>by simp[fol]at h
 |k+1,p,nm,d,s,hf,hc,h=>by
  unfold fol at h⊢;cases hn:findD l nm with
  |none=>simp[hn]at h
  |some n=>
   simp only[hn]at h⊢;split at h
   ·simp at h
   rename_i hp;rw[aD hp];split at h
   ·rename_i hd;rw[aG hd];exact⟨⟨hf,hc,fun _ h=>h,fun _ h=>h,fun _ h=>.inl h⟩,n,hd,rfl⟩
   rename_i hd;rw[aD hd];obtain⟨df,hdf,hname,_⟩:=findD_some hn;simp only[hdf,cS,cG]at h⊢;have hpush:=hf.push hn hp hd;split at h
   ·rename_i h0;rw[aG h0];obtain⟨g,g1,g2⟩:=folI_fol v mem vis ok hv (fun nm d s hf hc h=>fol_fol l k (p++[n]) nm d s hf hc h) df.items d s hpush hc h0;simp only;have hgood:Good l ok nm:=.mk hn hdf (fun x hx h3=>(g1 x hx h3).1) fun x hx h3=>by
     obtain⟨m,hm,hfm⟩:=g2 x hx h3;exact g.closed.good m hm x.name hfm
    refine⟨⟨g.fine.pop hn,⟨fun m hm e he x hx h3 u hu=>?_,fun m hm e he x hx h3=>?_,fun m hm nm2 hf2=>?_⟩,fun m hm=>cK _ (g.sub m hm),g.up,fun u hu=>?_⟩,n,by simp,rfl⟩
    ·rcases aX.1 hm with hm|hm
     ·exact g.closed.it m hm e he x hx h3 u hu
     ·rw[aV.1 hm,hdf]at he;cases he;exact(g1 x hx h3).2 u hu
    ·rcases aX.1 hm with hm|hm
     ·obtain⟨m2,h1,h2⟩:=g.closed.nm m hm e he x hx h3;exact⟨m2,cK _ h1,h2⟩
     ·rw[aV.1 hm,hdf]at he;cases he;obtain⟨m2,h1,h2⟩:=g2 x hx h3;exact⟨m2,cK _ h1,h2⟩
    ·rcases aX.1 hm with hm|hm
     ·exact g.closed.good m hm nm2 hf2
     ·rw[aV.1 hm]at hf2;obtain⟨df2,hdf2,hname2,_⟩:=findD_some hf2;rw[hdf]at hdf2;cases hdf2;rw[<-hname2,hname];exact hgood
    ·rcases g.dn u hu with h1|⟨x,hx,⟨h3,h4⟩|⟨h3,h4⟩⟩
     ·exact .inl h1
     ·exact .inr (.here hn hdf hx h3 h4)
     ·exact .inr (.there hn hdf hx h3 h4)
   ·rename_i h0;exact absurd h h0
theorem fol_lead(l:List Df)(nm:ByteArray)(s:S)(hs:∀u,¬mem s u)(h:(fol v l (l.length+1) [] nm [] s).1=0):
  Good l ok nm/\∀u,mem (fol v l (l.length+1) [] nm [] s).2.2 u↔Lead l vis nm u:=by
 obtain⟨g,m,hm,hf⟩:=fol_fol v mem vis ok hv l (l.length+1) [] nm [] s (fineNil l) ⟨fun n h=>(by cases h),fun n h=>(by cases h),fun n h=>(by cases h)⟩ h;refine⟨g.closed.good m hm nm hf,fun u=>⟨fun hu=>?_,fun hl=>lead_done mem vis ok g.closed hl m hm hf⟩⟩;rcases g.dn u hu with h1|h1
 ·exact absurd h1 (hs u)
 ·exact h1
end
section
variable {I:List (Int×Rg)} {X:List Bx}
theorem vals(p:Nat->Int)(e:Int):setF p 2 e 2=e/\setF p 2 e 3=p 3/\setF p 2 e 4=p 4:=⟨rfl,rfl,rfl⟩
end
end Go.Proofs.YtnomkooikbhgmaaGreatDoor
