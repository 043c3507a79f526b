/- Lemmas. -/
import Derived.Test.YtgicddadddhonaaGreatDoorM32
set_option linter.unusedVariables false
set_option linter.unusedSimpArgs false
set_option maxRecDepth 100000
set_option maxHeartbeats 40000000
noncomputable section
namespace Go.Proofs.YtgicddadddhonaaGreatDoor
open Go Go.Vm
theorem aKY{α:Type}{f:α->AV}{l:List α}{k:Nat}{K:List AV->Prop}(h:k<=l.length)(hk:K ((l.take k).map f)):Sl (l.map f) 0 (k-0) K:=iE (by simpa using h) (by rw[bP,eV,List.map_take]) hk
theorem aCq(h:Hn)(r:Rg):(oI h r).map pV=[.agg [.v (.int .u32 r.lo),.v (.int .u32 r.hi),.v (.int .u32 0),.v (.int .u32 4294967295),.v (.int .u32 6),.v (.int .u32 6),.v (.int .u32 0),.v (.int .u32 65535),.v (.int .u32 0),.v (.int .u32 65535),.v (.int .u32 h.addr),.v (.int .u32 h.ports.lo),.v (.int .u32 h.ports.hi)],
  .agg [.v (.int .u32 r.lo),.v (.int .u32 r.hi),.v (.int .u32 0),.v (.int .u32 4294967295),.v (.int .u32 17),.v (.int .u32 17),.v (.int .u32 0),.v (.int .u32 65535),.v (.int .u32 0),.v (.int .u32 65535),.v (.int .u32 h.addr),.v (.int .u32 h.ports.lo),.v (.int .u32 h.ports.hi)],
  .agg [.v (.int .u32 r.lo),.v (.int .u32 r.hi),.v (.int .u32 0),.v (.int .u32 4294967295),.v (.int .u32 1),.v (.int .u32 1),.v (.int .u32 0),.v (.int .u32 65535),.v (.int .u32 0),.v (.int .u32 65535),.v (.int .u32 h.addr),.v (.int .u32 h.ports.lo),.v (.int .u32 h.ports.hi)],
  .agg [.v (.int .u32 r.lo),.v (.int .u32 r.hi),.v (.int .u32 0),.v (.int .u32 4294967295),.v (.int .u32 0),.v (.int .u32 0),.v (.int .u32 0),.v (.int .u32 65535),.v (.int .u32 0),.v (.int .u32 65535),.v (.int .u32 h.addr),.v (.int .u32 0),.v (.int .u32 0)],
  .agg [.v (.int .u32 r.lo),.v (.int .u32 r.hi),.v (.int .u32 0),.v (.int .u32 4294967295),.v (.int .u32 2),.v (.int .u32 5),.v (.int .u32 0),.v (.int .u32 65535),.v (.int .u32 0),.v (.int .u32 65535),.v (.int .u32 h.addr),.v (.int .u32 0),.v (.int .u32 0)],
  .agg [.v (.int .u32 r.lo),.v (.int .u32 r.hi),.v (.int .u32 0),.v (.int .u32 4294967295),.v (.int .u32 7),.v (.int .u32 16),.v (.int .u32 0),.v (.int .u32 65535),.v (.int .u32 0),.v (.int .u32 65535),.v (.int .u32 h.addr),.v (.int .u32 0),.v (.int .u32 0)],
  .agg [.v (.int .u32 r.lo),.v (.int .u32 r.hi),.v (.int .u32 0),.v (.int .u32 4294967295),.v (.int .u32 18),.v (.int .u32 255),.v (.int .u32 0),.v (.int .u32 65535),.v (.int .u32 0),.v (.int .u32 65535),.v (.int .u32 h.addr),.v (.int .u32 0),.v (.int .u32 0)]]:=rfl
theorem lH{α β:Type}(f:α->List β)(n:Nat):∀(l:List α),(∀x,x∈l->(f x).length<=n)->(l.flatMap f).length<=l.length*n
 |[],_=>by simp
 |x::l,h=>by
  rw[cS,aC,aB,cE,fQ];have h1:=h x zx;have h2:=lH f n l fun y hy=>h y (aS _ hy);omega
theorem aCr(h:Hn)(r:Rg):(oI h r).length=7:=rfl
theorem wJ{t:Tp}(hc:mE t=true){i:Nt}(hb:Bnd i)(h:Hn):(vO t i h).length<=6020:=by
 have h1:=lH (oI h) 7 (kJ t i h.grp).1 fun r _=>aO _;have h2:=uD hc hb h.grp;unfold vO;omega
theorem tZ{α β:Type}(f:α->List β){l:List α}{k:Nat}{x:α}(h:l[k]? =some x):(l.take (k+1)).flatMap f=(l.take k).flatMap f++f x:=by
 rw[bE,h,gJ];simp
theorem aCF(t:Tp)(i:Nt)(n:Nat)(e:Ed)(he:t.edges[n]? =some e)(hc:mE t=true)(hn:ntB i=true)(hb:Bnd i)(ht:t.edges.length<1000000){K:KT}(hK:K (nN (uE t i e)) []):
  AC 61 [jT t,jC i,.v (.int .i64 n)] [] K:=by
 have hnl:=(aP.1 he).1;have hok:=ntB_iff.1 hn;have hhl:=hok.hl;have hgv:∀s:ByteArray,Dy t i s=kJ t i s:=fun s=>by rw[Dy,aH ⟨hc,hn⟩]
 refine hJ (aHP rfl rfl ?_);(repeat' ((conv=>whnf);first|refine zG ?_|apply zA|intro h|exact zT));all_goals conv=>whnf
 refine gV Nat (fun k=>⟨3,[(0,kM t),(1,lM i),(2,.arr 13 (((i.hids.take k).flatMap fun h=>if sEq h.edge e.name=true then vO t i h else []).map pV))],[(2,.v (.int .i64 n)),(3,.op 0 0),(4,.op 1 0),(7,.os 2 13 0 ((i.hids.take k).flatMap fun h=>if sEq h.edge e.name=true then vO t i h else []).length),(19,.lst (i.hids.map jY)),(20,.v (.int .i64 (i.hids.map jY).length)),(21,.v (.int .i64 k))]⟩) (fun k=>k<=i.hids.length) (fun k=>i.hids.length-k) 0 (aK _) ?_ ?_
 ·exact leA
 intro k hk;have hAl:((i.hids.take k).flatMap fun h=>if sEq h.edge e.name=true then vO t i h else []).length<=50000:=by
  have h1:=lH (fun h=>if sEq h.edge e.name=true then vO t i h else []) 6020 (i.hids.take k) fun h _=>by
   split
   ·exact wJ hc hb h
   ·exact aK _
  rw[aV]at h1;have:min k i.hids.length*6020<=8*6020:=bZ _ zo;omega
 rcases aD k i.hids.length with hkl|hkl
 ·obtain⟨x,hx⟩:=gex hkl;have hst:=tZ (fun h=>if sEq h.edge e.name=true then vO t i h else []) hx;generalize hA:((i.hids.take k).flatMap fun h=>if sEq h.edge e.name=true then vO t i h else [])=A at*;have hgl:=uD hc hb x.grp;have hgr:∀{K:KT},K (.tup [iR (kJ t i x.grp).1,.v (.int .i64 (kJ t i x.grp).2)]) []->AC 122 [jT t,jC i,.v (.string x.grp)] [] K:=fun h=>aFr t ht i hb x.grp (by rw[hgv];exact h);by_cases hs:sEq x.edge e.name=true
  case neg=>
   rw[aF hs,bG]at hst;unfold sEq at hs;(repeat' ((conv=>whnf);first|(with_reducible first|refine iI hkl ?_|refine iH hx ?_|refine iI hnl ?_|refine iH he ?_)|refine zG ?_|apply zA|intro h|exact zT));all_goals conv=>whnf
   all_goals first
    |(refine⟨k+1,hkl,by omega,?_⟩
      rw[hst,aN,aM];exact leA)
    |(exfalso;simp_all;done)
  rw[aH hs]at hst;unfold sEq at hs;have hHl:=wJ hc hb x;have hHe:vO t i x=(kJ t i x.grp).1.flatMap (oI x):=rfl;rw[hHe]at hst hHl;clear hHe;generalize kJ t i x.grp=G at*;obtain⟨G,ge⟩:=G;simp only at hgr hgl hst hHl;(repeat' ((conv=>whnf);first|(with_reducible first|refine iI hkl ?_|refine iH hx ?_|refine iI hnl ?_|refine iH he ?_|refine hgr ?_)|refine zG ?_|apply zA|intro h|exact zT));all_goals conv=>whnf
  all_goals first
   |(exfalso;simp_all;done)
   |skip
  clear hgr hgv;refine gV Nat (fun j=>⟨4,[(0,kM t),(1,lM i),(2,.arr 13 ((A++(G.take j).flatMap (oI x)).map pV)),(3,.box (Qk x))],[(2,.v (.int .i64 n)),(3,.op 0 0),(4,.op 1 0),(7,.os 2 13 0 (A++(G.take j).flatMap (oI x)).length),(9,.op 3 0),(19,.lst (i.hids.map jY)),(20,.v (.int .i64 (i.hids.map jY).length)),(21,.v (.int .i64 k)),(42,iR G),(43,.v (.int .i64 (G.map encR).length)),(44,.v (.int .i64 j))]⟩) (fun j=>j<=G.length) (fun j=>G.length-j) 0 (aK _) ?_ ?_
  ·rw[cA,List.flatMap_nil,bG];exact leA
  intro j hj;have hBl:(A++(G.take j).flatMap (oI x)).length<=60000:=by
   have h1:=lH (oI x) 7 (G.take j) fun r _=>aO _;rw[aV]at h1;rw[aC];omega
  rcases aD j G.length with hjl|hjl
  ·obtain⟨r,hr⟩:=gex hjl;have hst2:=tZ (oI x) hr;have hB2:A++(G.take (j+1)).flatMap (oI x)=(A++(G.take j).flatMap (oI x))++oI x r:=by rw[hst2,cM]
   generalize hBe:A++(G.take j).flatMap (oI x)=B at*;have hB3:(A++(G.take (j+1)).flatMap (oI x)).map pV=B.map pV++(oI x r).map pV:=by rw[hB2,aQ]
   have hB4:(A++(G.take (j+1)).flatMap (oI x)).length=B.length+7:=by rw[hB2,aC,aCr]
   rw[aCq]at hB3;clear hB2 hst2;(repeat' ((conv=>whnf);first|(with_reducible first|refine iI hjl ?_|refine iH hr ?_|refine Fa ?_|refine Lp.times 8 ?_)|(refine kH zd ?_)|(refine iC rfl ?_)|refine zG ?_|apply zA|intro h|exact zT));all_goals conv=>whnf
   all_goals first
    |(refine⟨j+1,hjl,by omega,?_⟩
      rw[hB3,hB4,aN j,aM];simp only[cM,eW,dB,cD,Nat.reduceAdd];exact leA)
  ·rw[aW hjl];(repeat' ((conv=>whnf);first|refine zG ?_|apply zA|intro h|exact zT));all_goals conv=>whnf
   refine⟨k+1,hkl,by omega,?_⟩;rw[hst,aN,aM];exact leA
 ·rw[aW hkl];unfold uE at hK;(repeat' ((conv=>whnf);first|(with_reducible refine iT zx ?_)|refine zG ?_|apply zA|intro h|exact zT));all_goals conv=>whnf
  exact⟨_,gY,hK⟩
structure TrB (t:Tp) (i:Nt):Prop where
 et:t.edges.length<1000000
 dt:t.devs.length<1000000
 pt:t.pools.length<1000000
 bi:Bnd i
 pa:∀p,p∈i.pubs->PbA p
 ha:∀h,h∈i.hids->0<=h.addr/\h.addr<=4294967295
theorem uN{t:Tp}{i:Nt}(h:tJ t i=0):mE t=true/\ntB i=true:=Decidable.byContradiction fun hn=>by unfold tJ at h;rw[aF hn]at h;cases h
theorem Rm(t:Tp)(i:Nt)(hT:TrB t i){K:KT}(hK:K (.v (.int .i64 (trP t i))) []):AC 18 [jT t,jC i] [] K:=by
 obtain⟨het,hdt,hpt,hb,hpa,hha⟩:=hT;have hck:∀{K:KT},K (.v (.int .i64 (tJ t i))) []->AC 58 [jT t,jC i] [] K:=fun h=>aFq t het hdt i hb h;refine aPl rfl rfl ?_;unfold trP at hK;by_cases hc0:tJ t i=0
 case neg=>
  rw[aH hc0]at hK;generalize tJ t i=c at*;(repeat' ((conv=>whnf);first|(with_reducible refine hck ?_)|refine zG ?_|apply zA|intro h|exact zT));all_goals conv=>whnf
  all_goals first
   |exact hK
   |(exfalso;omega)
 obtain⟨hc,hn⟩:=uN hc0;have hok:=ntB_iff.1 hn;have hpl:=hok.pl;have hhl:=hok.hl;rw[aF zo]at hK;rw[hc0]at hck;(repeat' ((conv=>whnf);first|(with_reducible refine hck ?_)|refine zG ?_|apply zA|intro h|exact zT));all_goals conv=>whnf
 all_goals first
  |(exfalso;omega)
  |skip
 refine gV Nat (fun k=>⟨2,[(0,kM t),(1,lM i)],[(2,.op 0 0),(3,.op 1 0),(20,.lst (i.pubs.map jU)),(21,.v (.int .i64 (i.pubs.map jU).length)),(22,.v (.int .i64 k))]⟩) (fun k=>k<=i.pubs.length/\rO (sP t) [] i.pubs=rO (sP t) (i.pubs.take k) (i.pubs.drop k)) (fun k=>i.pubs.length-k) 0 ⟨aK _,by rw[cA,bP]⟩ ?_ ?_
 ·exact leA
 intro k ⟨hk,hinv⟩;rcases aD k i.pubs.length with hkl|hkl
 ·obtain⟨x,hx⟩:=gex hkl;have hst:=uB (f:=sP t) hx;have htl:(i.pubs.take k).length<1000000:=by rw[aV];omega
  have hpu:=fun {K}=>@aVw t x (i.pubs.take k) (hpa x (aG hx)) het hpt htl K;rw[hst]at hinv;generalize sP t (i.pubs.take k) x=pe at*;(repeat' ((conv=>whnf);first|(with_reducible first|refine iI hkl ?_|refine iH hx ?_)|(refine iF 0 k rfl rfl (aK _) (by simp;omega) ?_)|(with_reducible first|refine aKY hk ?_|refine hpu ?_)|refine zG ?_|apply zA|intro h|exact zT));all_goals conv=>whnf
  all_goals first
   |(rw[aH zw]at hinv
     rw[aH (by rw[hinv];with_reducible assumption),hinv]at hK;exact hK)
   |(refine⟨k+1,⟨hkl,by rw[aF zo]at hinv;exact hinv⟩,by omega,?_⟩
     rw[aN,aM];exact leA)
 rw[Du hkl]at hinv;rw[aF zo]at hK;clear hinv;(repeat' ((conv=>whnf);first|refine zG ?_|apply zA|intro h|exact zT));all_goals conv=>whnf
 refine gV Nat (fun k=>⟨2,[(0,kM t),(1,lM i)],[(2,.op 0 0),(3,.op 1 0),(39,.lst (i.hids.map jY)),(40,.v (.int .i64 (i.hids.map jY).length)),(41,.v (.int .i64 k))]⟩) (fun k=>k<=i.hids.length/\rO (Dz t i) [] i.hids=rO (Dz t i) (i.hids.take k) (i.hids.drop k)) (fun k=>i.hids.length-k) 0 ⟨aK _,by rw[cA,bP]⟩ ?_ ?_
 ·exact leA
 intro k ⟨hk,hinv⟩;rcases aD k i.hids.length with hkl|hkl
 ·obtain⟨x,hx⟩:=gex hkl;have hst:=uB (f:=Dz t i) hx;have htl:(i.hids.take k).length<1000000:=by rw[aV];omega
  obtain⟨a0,a1⟩:=hha x (aG hx);have hpu:=fun {K}=>@aVo t i x (i.hids.take k) a0 a1 het hpt zo htl K;rw[hst]at hinv;generalize Dz t i (i.hids.take k) x=pe at*;(repeat' ((conv=>whnf);first|(with_reducible first|refine iI hkl ?_|refine iH hx ?_)|(refine iF 0 k rfl rfl (aK _) (by simp;omega) ?_)|(with_reducible first|refine aKY hk ?_|refine hpu ?_)|refine zG ?_|apply zA|intro h|exact zT));all_goals conv=>whnf
  all_goals first
   |(rw[aH zw]at hinv
     rw[aH (by rw[hinv];with_reducible assumption),hinv]at hK;exact hK)
   |(refine⟨k+1,⟨hkl,by rw[aF zo]at hinv;exact hinv⟩,by omega,?_⟩
     rw[aN,aM];exact leA)
 rw[Du hkl]at hinv;rw[aF zo]at hK;clear hinv;(repeat' ((conv=>whnf);first|refine zG ?_|apply zA|intro h|exact zT));all_goals conv=>whnf
 refine gV Nat (fun k=>⟨2,[(0,kM t),(1,lM i)],[(2,.op 0 0),(3,.op 1 0),(60,.v (.int .i64 (t.edges.map lY).length)),(61,.v (.int .i64 k))]⟩) (fun k=>k<=t.edges.length/\∀(j:Nat) y,j<k->t.edges[j]? =some y->decide (256<(uE t i y).length)=false) (fun k=>t.edges.length-k) 0 ⟨aK _,fun j y hj=>absurd hj (bD _)⟩ ?_ ?_
 ·exact leA
 intro k ⟨hk,hinv⟩;rcases aD k t.edges.length with hkl|hkl
 ·obtain⟨e,he⟩:=gex hkl;have hhi:=fun {K}=>@aCF t i k e he hc hn hb het K;have hit:256<(uE t i e).length->(t.edges.any fun e=>decide (256<(uE t i e).length))=true:=fun h=>bR.2 ⟨e,aG he,decide_eq_true h⟩;have hml:((uE t i e).map pV).length=(uE t i e).length:=aA ..;(repeat' ((conv=>whnf);first|(with_reducible refine hhi ?_)|refine zG ?_|apply zA|intro h|exact zT));all_goals conv=>whnf
  all_goals first
   |(rw[aH (hit zo)]at hK;exact hK)
   |(refine⟨k+1,⟨by omega,jJ he (decide_eq_false zo) hinv⟩,by omega,?_⟩
     rw[aN,aM];exact leA)
 ·rw[aF (by
   rw[bR]
   rintro⟨m,hm,h⟩
   obtain⟨j,hj⟩:=bH.1 hm;rw[iL hkl hinv j m hj]at h;cases h)]at hK
  (repeat' ((conv=>whnf);first|refine zG ?_|apply zA|intro h|exact zT));all_goals conv=>whnf
  exact hK
theorem aKQ(t:Tp)(i:Nt)(hT:TrB t i)(n:Int){K:KT}(hK:K (.v (.int .i64 (pG t i n))) []):AC 50 [jT t,jC i,.v (.int .i64 n)] [] K:=by
 have hck:=fun {K}=>@Rm t i hT K;have het:=hT.et;have hml:(t.edges.map lY).length=t.edges.length:=aA ..;refine aPv rfl rfl ?_;unfold pG at hK;generalize trP t i=c at*;(repeat' ((conv=>whnf);first|(with_reducible refine hck ?_)|refine zG ?_|apply zA|intro h|exact zT));all_goals conv=>whnf
 all_goals first
  |(rw[aH zw]at hK;exact hK)
  |(rw[aF zo,aH zo]at hK;exact hK)
  |(rw[aF zo,aF zo]at hK;exact hK)
theorem J9{p:Pb}(h:pbB p=true)(ha:PbA p):PbB p:=by
 obtain⟨⟨a0,a1⟩,r0,r1⟩:=ha;simp only[pbB,ptB,aJ,bV,aL]at h;exact⟨a0,a1,r0,r1,by omega,by omega,by omega,by omega,by omega,by omega⟩
theorem aCS{p:Pb}(h:PbB p):nR (lI p)=.agg [.v (.int .u32 0),.v (.int .u32 4294967295),.v (.int .u32 p.addr),.v (.int .u32 p.addr),.v (.int .u32 p.proto),.v (.int .u32 p.proto),.v (.int .u32 0),.v (.int .u32 65535),.v (.int .u32 p.port),.v (.int .u32 p.port),.v (.int .u32 0),.v (.int .u32 4294967295),.v (.int .u32 p.real),.v (.int .u32 p.real),.v (.int .u32 p.proto),.v (.int .u32 p.proto),.v (.int .u32 0),.v (.int .u32 65535),.v (.int .u32 p.rport),.v (.int .u32 p.rport)]:=by
 obtain⟨⟨a,a'⟩,⟨b,b'⟩,⟨c,c'⟩,⟨d,d'⟩,⟨e,e'⟩,⟨f,f'⟩,⟨g,g'⟩,⟨k,k'⟩,⟨l,l'⟩,m,m'⟩:=uI h;show AV.agg _=_;rw[a,a',b,b',c,c',d,d',e,e',f,f',g,g',k,k',l,l',m,m']
def wQ(t:Tp)(i:Nt)(n:Int):List Mv:=if pG t i n=0 then Y9 t i n.toNat else []
def Kv(t:Tp)(i:Nt)(n:Int):List Hi:=if pG t i n=0 then Yw t i n.toNat else []
theorem yZ{t:Tp}{i:Nt}{n:Int}(h:pG t i n=0):(mE t=true/\ntB i=true)/\0<=n/\n<t.edges.length:=by
 unfold pG at h;split at h
 ·rename_i h1;exact absurd h h1
 rename_i h1;have h1:trP t i=0:=Decidable.byContradiction h1;split at h
 ·cases h
 refine⟨?_,by omega⟩;unfold trP at h1;split at h1
 ·rename_i h2;exact absurd h1 h2
 rename_i h2;exact uN (Decidable.byContradiction h2)
theorem Ou(t:Tp)(i:Nt)(hT:TrB t i)(n:Int){K:KT}(hK:K (.tup [lQ (wQ t i n),.v (.int .i64 (pG t i n))]) []):AC 13 [jT t,jC i,.v (.int .i64 n)] [] K:=by
 have hkn:=fun {K}=>@aKQ t i hT n K;refine hJ (aHX rfl rfl ?_);unfold wQ at hK;by_cases h0:pG t i n=0
 case neg=>
  rw[aF h0]at hK;generalize pG t i n=c at*;(repeat' ((conv=>whnf);first|(with_reducible refine hkn ?_)|refine zG ?_|apply zA|intro h|exact zT));all_goals conv=>whnf
  all_goals first
   |exact⟨_,hU hZ gY,hK⟩
   |(exfalso;omega)
 obtain⟨⟨hc,hn⟩,n0,n1⟩:=yZ h0;obtain⟨m,rfl⟩:∃m:Nat,n=m:=⟨n.toNat,by omega⟩
 have hml:m<t.edges.length:=by omega
 obtain⟨e,he⟩:=gex hml;have hok:=ntB_iff.1 hn;have hpl:=hok.pl;rw[aH h0,h0,dY,Y9,he]at hK;simp only at hK;rw[h0]at hkn;have hpb:∀p,p∈i.pubs->PbB p:=fun p hp=>J9 (hok.p p hp) (hT.pa p hp);(repeat' ((conv=>whnf);first|(with_reducible refine hkn ?_)|refine zG ?_|apply zA|intro h|exact zT));all_goals conv=>whnf
 all_goals first
  |(exfalso;omega)
  |skip
 refine gV Nat (fun k=>⟨3,[(0,kM t),(2,.arr 20 ((((i.pubs.take k).filter fun p=>sEq p.edge e.name).map lI).map nR))],[(2,.v (.int .i64 m)),(3,.op 0 0),(9,.os 2 20 0 (((i.pubs.take k).filter fun p=>sEq p.edge e.name).map lI).length),(22,.lst (i.pubs.map jU)),(23,.v (.int .i64 (i.pubs.map jU).length)),(24,.v (.int .i64 k))]⟩) (fun k=>k<=i.pubs.length) (fun k=>i.pubs.length-k) 0 (aK _) ?_ ?_
 ·exact leA
 intro k hk;have hAl:(((i.pubs.take k).filter fun p=>sEq p.edge e.name).map lI).length<=16:=by
  rw[aA];refine bC (dK ..) ?_;rw[aV];omega
 rcases aD k i.pubs.length with hkl|hkl
 ·obtain⟨x,hx⟩:=gex hkl;have hxb:=hpb x (aG hx);have henc:=aCS hxb;have hst:((i.pubs.take (k+1)).filter fun p=>sEq p.edge e.name).map lI=((i.pubs.take k).filter fun p=>sEq p.edge e.name).map lI++(if sEq x.edge e.name=true then [lI x]else []):=by
   rw[bE,hx,dP,aQ];by_cases h:sEq x.edge e.name=true
   ·rw[aH h];simp[h]
   ·rw[aF h];simp[h]
  generalize ((i.pubs.take k).filter fun p=>sEq p.edge e.name).map lI=A at*;obtain⟨a0,a1,r0,r1,o0,o1,t0,t1,q0,q1⟩:=hxb;by_cases hs:sEq x.edge e.name=true
  case neg=>
   rw[aF hs,bG]at hst;unfold sEq at hs;(repeat' ((conv=>whnf);first|(with_reducible first|refine iI hkl ?_|refine iH hx ?_|refine iI hml ?_|refine iH he ?_)|refine zG ?_|apply zA|intro h|exact zT));all_goals conv=>whnf
   all_goals first
    |(refine⟨k+1,hkl,by omega,?_⟩
      rw[hst,aN,aM];exact leA)
    |(exfalso;simp_all;done)
  rw[aH hs]at hst;unfold sEq at hs;(repeat' ((conv=>whnf);first|(with_reducible first|refine iI hkl ?_|refine iH hx ?_|refine iI hml ?_|refine iH he ?_|refine Fa ?_)|(refine kH zd ?_)|refine zG ?_|apply zA|intro h|exact zT));all_goals conv=>whnf
  all_goals first
   |(refine⟨k+1,hkl,by omega,?_⟩
     rw[hst,aQ,aR,bI,henc,aC,aN k,aM];exact leA)
   |(exfalso;simp_all;done)
 ·rw[aW hkl];unfold qB at hK;(repeat' ((conv=>whnf);first|(with_reducible refine iT zx ?_)|refine zG ?_|apply zA|intro h|exact zT));all_goals conv=>whnf
  exact⟨_,gY,hK⟩
theorem W5(t:Tp)(i:Nt)(hT:TrB t i)(n:Int){K:KT}(hK:K (.tup [nN (Kv t i n),.v (.int .i64 (pG t i n))]) []):AC 30 [jT t,jC i,.v (.int .i64 n)] [] K:=by
 have hkn:=fun {K}=>@aKQ t i hT n K;refine hJ (aDm rfl rfl ?_);unfold Kv at hK;by_cases h0:pG t i n=0
 case neg=>
  rw[aF h0]at hK;generalize pG t i n=c at*;(repeat' ((conv=>whnf);first|(with_reducible refine hkn ?_)|refine zG ?_|apply zA|intro h|exact zT));all_goals conv=>whnf
  all_goals first
   |exact⟨_,hU hZ gY,hK⟩
   |(exfalso;omega)
 obtain⟨⟨hc,hn⟩,n0,n1⟩:=yZ h0;obtain⟨m,rfl⟩:∃m:Nat,n=m:=⟨n.toNat,by omega⟩
 have hml:m<t.edges.length:=by omega
 obtain⟨e,he⟩:=gex hml;rw[aH h0,h0,dY,Yw,he]at hK;simp only at hK;rw[h0]at hkn;(repeat' ((conv=>whnf);first|(with_reducible first|refine hkn ?_|refine aCF t i m e he hc hn hT.bi hT.et ?_)|refine zG ?_|apply zA|intro h|exact zT));all_goals conv=>whnf
 all_goals first
  |exact⟨_,gY,hK⟩
  |(exfalso;omega)
end Go.Proofs.YtgicddadddhonaaGreatDoor
