/- Lemmas. -/
import Derived.Test.YtgicddadddhonaaGreatDoorM12
set_option linter.unusedVariables false
set_option linter.unusedSimpArgs false
set_option maxRecDepth 100000
set_option maxHeartbeats 4000000
namespace Go.Proofs.YtgicddadddhonaaGreatDoor
open Go Go.Vm
theorem aEK{α:Type}{A:List α}{n:Nat}{L M:List α}{j:Nat}{v:α}(hA:A.length=n)(h:L.length=M.length)(hj:L[j]? =some v):(A++(L.take j++M.drop j)).set (n+j) v=A++(L.take (j+1)++M.drop (j+1)):=by
 have hl:=(aP.1 hj).1;obtain⟨y,hd⟩:∃y,M.drop j=y::M.drop (j+1):=⟨M[j]'zo,bA zo⟩
 rw[dO _ _ zo,hA,fN,hd,dO _ _ (by rw[aV];omega),aV,gM zo,dH,List.set_cons_zero,bE,hj,cM];rfl
theorem aEu(b:Bx)(r:Rg):b.put 0 r=⟨r,b.r1,b.r2,b.r3,b.r4⟩:=rfl
theorem aEv(b:Bx)(r:Rg):b.put 1 r=⟨b.r0,r,b.r2,b.r3,b.r4⟩:=rfl
theorem aEw(b:Bx)(r:Rg):b.put 2 r=⟨b.r0,b.r1,r,b.r3,b.r4⟩:=rfl
theorem aEx(b:Bx)(r:Rg):b.put 3 r=⟨b.r0,b.r1,b.r2,r,b.r4⟩:=rfl
theorem aEy(b:Bx)(r:Rg):b.put 4 r=⟨b.r0,b.r1,b.r2,b.r3,r⟩:=rfl
theorem qM{α:Type}{f:α->AV}(l:List α):decide ((0:Int)<((l.map f).length:Int))= !l.isEmpty:=by
 cases l with
 |nil=>rfl
 |cons x l=>simp
theorem U3(c:Int)(k:Nat)(hk:k<=4)
  (hIH:∀(a b:List Bx) {K:KT},a.length+b.length<50000->(jH (opI c) k a b).length<=900000000000->K (iN (jH (opI c) k a b)) []->AC 154 [iN a,iN b,.v (.int .i64 c),.v (.int .i64 (((4-k:Nat):Int)+1))] [] K)
  (a b:List Bx){K:KT}(hab:a.length+b.length<50000)(hN:(jH (opI c) (k+1) a b).length<=900000000000)(hK:K (iN (jH (opI c) (k+1) a b)) []):
  AC 154 [iN a,iN b,.v (.int .i64 c),.v (.int .i64 ((4-k:Nat):Int))] [] K:=by
 have hf4:4-k<=4:=by omega
 have ht:=kF (4-k);have hTop:∀{K:KT},K (.v (.int .u32 (iX (4-k)))) []->AC 53 [.v (.int .i64 ((4-k:Nat):Int))] [] K:=fun h=>pJ _ (by rw[Sv hf4];exact h);have hcuts:=mA (lO (4-k) a b) ht.1;have hR:∀u v,(∀r,r∈lO (4-k) a b->((r.lo<=u/\u<=r.hi)↔(r.lo<=v/\v<=r.hi)))->iY (opI c) k a b u=iY (opI c) k a b v:=fun u v h=>uY h;have hrl:(lO (4-k) a b).length<100000:=by rw[lO,aC,aA,aA];omega
 have hstl:=qO (lO (4-k) a b) ht.1;rw[kT]at hN hK;rw[pB]at hN;refine hJ (Ml rfl rfl ?_);(repeat' ((conv=>whnf);first|(with_reducible first|refine aFo c _ _ ?_|refine aLD a b (4-k) hf4 zo zo ?_|refine hTop ?_|refine c45 (lO (4-k) a b) (iX (4-k)) ht.1 ht.2 hrl ?_)|refine zG ?_|apply zA|intro h|exact zT));all_goals conv=>whnf
 ·refine⟨.lst [],hZ,?_⟩;rw[qM,qM]at h;have hd:=E6 (opI c) (k+1) a b (Za h);rw[kT]at hd;rw[hd]at hK;exact hK
 generalize hst:starts (lO (4-k) a b) (iX (4-k))=st at*;have hgs:∀i,kG (pL (iY (opI c) k a b) (iX (4-k)) st i)<=900000000000:=fun i=>bC (xO i) hN;have hrs:∀(i:Nat) x,st[i]? =some x->(iY (opI c) k a b x).length<=900000000000:=fun i x hx=>bC (Mw hx) hN;refine gV (Nat×AV) (fun g=>⟨1,[(0,.arr 10 ((iZ (4-k) (pL (iY (opI c) k a b) (iX (4-k)) st g.1)).map iV))],[(0,iN a),(1,iN b),(2,.v (.int .i64 c)),(3,.v (.int .i64 ((4-k:Nat):Int))),(9,.os 0 10 0 (iZ (4-k) (pL (iY (opI c) k a b) (iX (4-k)) st g.1)).length),(10,g.2),(11,nV st),(12,.v (.int .i64 g.1))]⟩)
  (fun g=>g.1<=st.length/\((g.1=0/\g.2=.nils)\/∃j x,g.1=j+1/\st[j]? =some x/\g.2=iN (iY (opI c) k a b x))) (fun g=>st.length-g.1) (0,.nils) ⟨aK _,.inl ⟨rfl,rfl⟩⟩ ?_ ?_
 ·exact leA
 rintro⟨i,y⟩ ⟨hi,hy⟩
 simp only at hi hy⊢;rcases aD i st.length with hil|hil
 ·obtain⟨x,hx⟩:=gex hil;have hto:=G6 hcuts hx;have hgi:=Fm hcuts hR i x hx;have hsucc:=xP (R:=iY (opI c) k a b) (top:=iX (4-k)) hx;have hsz:=hgs i;have hsz1:=hgs (i+1);have hrx:=hrs i x hx;rw[hsucc]at hsz1;have hfl:=pB (4-k) (pL (iY (opI c) k a b) (iX (4-k)) st i);(repeat' ((conv=>whnf);first|(with_reducible refine hTop ?_)|refine zG ?_|apply zA|intro h|exact zT));all_goals conv=>whnf
  generalize hgsI:pL (iY (opI c) k a b) (iX (4-k)) st i=gs at*;obtain⟨rest,hdr⟩:∃rest,iY (opI c) k a b x=rest:=⟨_,rfl⟩
  obtain⟨to,hdto⟩:∃to,pW (iX (4-k)) st i=to:=⟨_,rfl⟩
  rw[hdr,hdto]at hsucc hsz1;rw[hdr]at hrx;rw[hdto]at hto;have hatl:(atF (4-k) x a).length+(atF (4-k) x b).length<50000:=by
   have h1:=xJ (4-k) x a;have h2:=xJ (4-k) x b;omega
  have hcall:∀{K:KT},K (iN rest) []->AC 154 [iN (atF (4-k) x a),iN (atF (4-k) x b),.v (.int .i64 c),.v (.int .i64 (((4-k:Nat):Int)+1))] [] K:=fun h=>hIH _ _ hatl (by rw[show jH (opI c) k (atF (4-k) x a) (atF (4-k) x b)=rest from hdr];exact hrx) (by rw[show jH (opI c) k (atF (4-k) x a) (atF (4-k) x b)=rest from hdr];exact h);have m1:(mkR x to).lo=x:=kI hto.2.2 zo zo zo;have m2:(mkR x to).hi=to:=kP hto.2.2 zo zo zo;have hpush:(rest=[]\/x=0\/iY (opI c) k a b (x-1)≠rest)->iZ (4-k) (pL (iY (opI c) k a b) (iX (4-k)) st (i+1))=iZ (4-k) gs++rest.map fun z=>z.put (4-k) (mkR x to):=by
   intro hd;rw[hsucc];by_cases he:rest=[]
   ·rw[he,Ji,bI,bG]
   ·rw[Yv hgi he (hd.resolve_left he),uR]
  have hgrow:=(Fl gs (x,to) rest).2;have hsum:(iZ (4-k) gs).length+rest.length<=1800000000000:=by omega
  rcases hy with⟨h0,rfl⟩|⟨i',x',hi',hx',rfl⟩
  ·have hx0:x=0:=by
    obtain⟨r,hr⟩:=hcuts.zero;rw[h0,hr]at hx;simp at hx;exact hx.symm
   refine Jn.at ⟨1,[(0,.arr 10 ((iZ (4-k) gs).map iV))],[(0,iN a),(1,iN b),(2,.v (.int .i64 c)),(3,.v (.int .i64 ((4-k:Nat):Int))),(9,.os 0 10 0 (iZ (4-k) gs).length),(10,.nils),(11,nV st),(12,.v (.int .i64 i)),(13,.v (.int .u64 to))]⟩ ?_ ?_
   ·rcases aD (i+1) st.length with hk1|hk1
    ·obtain⟨z,hz⟩:∃z,st[i+1]? =some z:=⟨_,aE hk1⟩
     have hps:=Fy hcuts hR hx hz;have hzr:=hcuts.range z (aG hz);have e:to=z-1:=by rw[<-hdto,pW,hz]
     rw[e];(repeat' ((conv=>whnf);first|(with_reducible first|refine iB (i+1) zo (by simp;omega) ?_|refine iH hz ?_)|refine zG ?_|apply zA|intro h|exact zT));all_goals conv=>whnf
     refine⟨(),trivial,?_⟩;exact leA
    ·have e:to=iX (4-k):=by rw[<-hdto,pW,bS hk1]
     rw[e];(repeat' ((conv=>whnf);first|refine zG ?_|apply zA|intro h|exact zT));all_goals conv=>whnf
     refine⟨(),trivial,?_⟩;exact leA
   (repeat' ((conv=>whnf);first|(with_reducible first|refine iI hil ?_|refine iH hx ?_|refine Vy a (4-k) hf4 x zo ?_|refine Vy b (4-k) hf4 x zo ?_|refine hcall ?_)|refine zG ?_|apply zA|intro h|exact zT));all_goals conv=>whnf
   refine gV Nat (fun j=>⟨1,[(0,.arr 10 ((iZ (4-k) gs++(rest.take j).map fun z=>z.put (4-k) (mkR x to)).map iV))],[(0,iN a),(1,iN b),(2,.v (.int .i64 c)),(3,.v (.int .i64 ((4-k:Nat):Int))),(9,.os 0 10 0 ((iZ (4-k) gs).length+j)),(10,iN rest),(11,nV st),(12,.v (.int .i64 i)),(13,.v (.int .u64 to)),(14,iN rest),(16,.v (.int .i64 j))]⟩) (fun j=>j<=rest.length) (fun j=>rest.length-j) 0 (aK _) ?_ ?_
   ·rw[cA,bI,bG];exact leA
   intro j hj;have hl9:((iZ (4-k) gs++(rest.take j).map fun z=>z.put (4-k) (mkR x to)).map iV).length=(iZ (4-k) gs).length+j:=by rw[aA,aC,aA,aV];omega
   rcases aD j rest.length with hjl|hjl
   ·obtain⟨z,hz⟩:=gex hjl;have hnext:((iZ (4-k) gs++(rest.take (j+1)).map fun z=>z.put (4-k) (mkR x to)).map iV)=((iZ (4-k) gs++(rest.take j).map fun z=>z.put (4-k) (mkR x to)).map iV)++[iV (z.put (4-k) (mkR x to))]:=by
     simp only[bE,hz,eH,aQ,aR,bI,cM]
    generalize hA:((iZ (4-k) gs++(rest.take j).map fun z=>z.put (4-k) (mkR x to)).map iV)=A at*;generalize hB:((iZ (4-k) gs++(rest.take (j+1)).map fun z=>z.put (4-k) (mkR x to)).map iV)=B at*;clear hpush hfl hsucc hgi hcall hIH hTop;obtain⟨V,hV⟩:∃V,V=iV (z.put (4-k) (mkR x to)):=⟨_,rfl⟩
    rw[<-hV]at hnext;obtain rfl|rfl|rfl|rfl|rfl:k=0\/k=1\/k=2\/k=3\/k=4:=by omega
    all_goals
     simp only[Nat.reduceSub,aEu,aEv,aEw,aEx,aEy,iV,m1,m2]at hV;rw[hV]at hnext;(repeat' ((conv=>whnf);first|(with_reducible first|refine iI hjl ?_|refine iH hz ?_|refine iI hil ?_|refine iH hx ?_)|(refine kH zd ?_)|refine zG ?_|apply zA|intro h|exact zT));all_goals conv=>whnf
     refine⟨j+1,by omega,by omega,?_⟩;rw[hB,hnext];exact leA
   ·(repeat' ((conv=>whnf);first|refine zG ?_|apply zA|intro h|exact zT));all_goals conv=>whnf
    have hjr:j=rest.length:=by omega
    subst hjr;rw[dF]at*;have e1:=hpush (.inr (.inl hx0));have e2:(iZ (4-k) (pL (iY (opI c) k a b) (iX (4-k)) st (i+1))).length=(iZ (4-k) gs).length+rest.length:=by rw[e1,aC,aA]
    refine⟨(i+1,iN rest),⟨by simp only;omega,.inr ⟨i,x,rfl,hx,by rw[hdr]⟩⟩,by simp only;omega,?_⟩;simp only;rw[e2,e1];exact leA
  ·have hprev:=Fy hcuts hR hx' (show st[i'+1]? =some x by rw[<-hi'];exact hx);have hx'0:=hcuts.range x' (aG hx');have hx'l:=hrs i' x' hx';refine Jn.at ⟨1,[(0,.arr 10 ((iZ (4-k) gs).map iV))],[(0,iN a),(1,iN b),(2,.v (.int .i64 c)),(3,.v (.int .i64 ((4-k:Nat):Int))),(9,.os 0 10 0 (iZ (4-k) gs).length),(10,iN (iY (opI c) k a b x')),(11,nV st),(12,.v (.int .i64 i)),(13,.v (.int .u64 to))]⟩ ?_ ?_
   ·rcases aD (i+1) st.length with hk1|hk1
    ·obtain⟨z,hz⟩:∃z,st[i+1]? =some z:=⟨_,aE hk1⟩
     have hps:=Fy hcuts hR hx hz;have hzr:=hcuts.range z (aG hz);have e:to=z-1:=by rw[<-hdto,pW,hz]
     rw[e];(repeat' ((conv=>whnf);first|(with_reducible first|refine iB (i+1) zo (by simp;omega) ?_|refine iH hz ?_)|refine zG ?_|apply zA|intro h|exact zT));all_goals conv=>whnf
     refine⟨(),trivial,?_⟩;exact leA
    ·have e:to=iX (4-k):=by rw[<-hdto,pW,bS hk1]
     rw[e];(repeat' ((conv=>whnf);first|refine zG ?_|apply zA|intro h|exact zT));all_goals conv=>whnf
     refine⟨(),trivial,?_⟩;exact leA
   (repeat' ((conv=>whnf);first|(with_reducible first|refine iI hil ?_|refine iH hx ?_|refine Vy a (4-k) hf4 x zo ?_|refine Vy b (4-k) hf4 x zo ?_|refine hcall ?_|refine Vx rest (iY (opI c) k a b x') zo zo ?_)|refine zG ?_|apply zA|intro h|exact zT));all_goals conv=>whnf
   ·have hsm:=h;rename_i hlp;have hrne:rest≠[]:=fun e=>by rw[e]at hlp;simp at hlp
    have hx1:1<=x:=by omega
    have hRl:iY (opI c) k a b (x-1)=rest:=hprev.1.trans (by rw[<-hsm]);obtain⟨ini,g,hg1,hg2,hg3⟩:=hgi.last_some hx1 (by rw[hRl];exact hrne);rw[hRl]at hg2;subst hg1;have hjoin:iZ (4-k) (pL (iY (opI c) k a b) (iX (4-k)) st (i+1))=iZ (4-k) ini++rest.map fun z=>z.put (4-k) (mkR g.lo to):=by rw[hsucc,Yu hrne hg2 hg3,uR]
    have hglo:=hgi.low g zx;have hgle:=hgi.wf.le g zx;have hold:iZ (4-k) (ini++[g])=iZ (4-k) ini++rest.map fun z=>z.put (4-k) (mkR g.lo g.hi):=by rw[uR,hg2]
    have m1:(mkR g.lo to).lo=g.lo:=kI zo zo zo zo;have m2:(mkR g.lo to).hi=to:=kP zo zo zo zo;have m3:(mkR g.lo g.hi).lo=g.lo:=kI zo zo zo zo;have e2:(iZ (4-k) (pL (iY (opI c) k a b) (iX (4-k)) st (i+1))).length=(iZ (4-k) (ini++[g])).length:=by rw[hjoin,hold,aC,aC,aA,aA]
    have hlo:(iZ (4-k) (ini++[g])).length=(iZ (4-k) ini).length+rest.length:=by rw[hold,aC,aA]
    have hsub:((iZ (4-k) (ini++[g])).length:Int)-((rest.map iV).length:Int)=(((iZ (4-k) ini).length+0:Nat):Int):=by rw[hlo,aA];omega
    rw[hsub,hlo,hold];refine gV Nat (fun j=>⟨1,[(0,.arr 10 ((iZ (4-k) ini++((rest.map fun z=>z.put (4-k) (mkR g.lo to)).take j++(rest.map fun z=>z.put (4-k) (mkR g.lo g.hi)).drop j)).map iV))],[(0,iN a),(1,iN b),(2,.v (.int .i64 c)),(3,.v (.int .i64 ((4-k:Nat):Int))),(9,.os 0 10 0 ((iZ (4-k) ini).length+rest.length)),(10,iN (iY (opI c) k a b x')),(11,nV st),(12,.v (.int .i64 i)),(13,.v (.int .u64 to)),(15,.v (.int .i64 (((iZ (4-k) ini).length+j:Nat):Int)))]⟩) (fun j=>j<=rest.length) (fun j=>rest.length-j) 0 (aK _) ?_ ?_
    ·rw[cA,bP,dB];exact leA
    intro j hj;rcases aD j rest.length with hjl|hjl
    ·obtain⟨z,hz⟩:=gex hjl;have hAj:(rest.map fun z=>z.put (4-k) (mkR g.lo to))[j]? =some (z.put (4-k) (mkR g.lo to)):=by rw[bX,hz];rfl
     have hBj:(rest.map fun z=>z.put (4-k) (mkR g.lo g.hi))[j]? =some (z.put (4-k) (mkR g.lo g.hi)):=by rw[bX,hz];rfl
     have hAl:(rest.map fun z=>z.put (4-k) (mkR g.lo to)).length=rest.length:=aA ..;have hBl:(rest.map fun z=>z.put (4-k) (mkR g.lo g.hi)).length=rest.length:=aA ..;obtain⟨w,hw⟩:∃w,z.put (4-k) (mkR g.lo g.hi)=w:=⟨_,rfl⟩
     have hw2:z.put (4-k) (mkR g.lo to)=w.put (4-k) (mkR g.lo to):=by rw[<-hw,put_put]
     have hwg:(mkR g.lo to).lo=(w.get (4-k)).lo:=by rw[<-hw,get_put zo,m1,m3]
     rw[hw]at hBj;rw[hw2]at hAj;generalize (rest.map fun z=>z.put (4-k) (mkR g.lo to))=A at*;generalize (rest.map fun z=>z.put (4-k) (mkR g.lo g.hi))=B at*;have htk:(A.take j).length=j:=by rw[aV];omega
     have hel:(iZ (4-k) ini++(A.take j++B.drop j))[0+((iZ (4-k) ini).length+j)]? =some w:=by
      rw[bM,bF zo,fN,bF zo,htk,dH,cJ,eN,hBj]
     have hnext:((iZ (4-k) ini++(A.take j++B.drop j)).map iV).set (0+((iZ (4-k) ini).length+j)) (iV (w.put (4-k) (mkR g.lo to)))=(iZ (4-k) ini++(A.take (j+1)++B.drop (j+1))).map iV:=by
      rw[<-fS,bM,aEK rfl zo hAj]
     have hin:(iZ (4-k) ini).length+j<(iZ (4-k) ini).length+rest.length:=by omega
     clear hpush hfl hsucc hgi hcall hIH hTop hjoin hold;generalize iZ (4-k) ini=F at*;obtain⟨V,hV⟩:∃V,V=iV (w.put (4-k) (mkR g.lo to)):=⟨_,rfl⟩
     rw[<-hV]at hnext;obtain rfl|rfl|rfl|rfl|rfl:k=0\/k=1\/k=2\/k=3\/k=4:=by omega
     all_goals
      simp only[Nat.reduceSub,aEu,aEv,aEw,aEx,aEy,iV,hwg,m2,Bx.get]at hV;rw[hV]at hnext;(repeat' ((conv=>whnf);first|(with_reducible first|refine iJ hin ?_|refine iH hel ?_)|(refine kH zd ?_)|refine zG ?_|apply zA|intro h|exact zT));all_goals conv=>whnf
      refine⟨j+1,by omega,by omega,?_⟩;rw[<-hnext];exact leA
    ·(repeat' ((conv=>whnf);first|refine zG ?_|apply zA|intro h|exact zT));all_goals conv=>whnf
     have hjr:j=rest.length:=by omega
     subst hjr;refine⟨(i+1,iN (iY (opI c) k a b x')),⟨by simp only;omega,.inr ⟨i,x,rfl,hx,by rw[hdr,hsm]⟩⟩,by simp only;omega,?_⟩;simp only;rw[e2,hlo,hjoin];rw[aW (by rw[aA];exact aO _),bO (by rw[aA];exact aO _),bG];exact leA
   ·refine gV Nat (fun j=>⟨1,[(0,.arr 10 ((iZ (4-k) gs++(rest.take j).map fun z=>z.put (4-k) (mkR x to)).map iV))],[(0,iN a),(1,iN b),(2,.v (.int .i64 c)),(3,.v (.int .i64 ((4-k:Nat):Int))),(9,.os 0 10 0 ((iZ (4-k) gs).length+j)),(10,iN rest),(11,nV st),(12,.v (.int .i64 i)),(13,.v (.int .u64 to)),(14,iN rest),(16,.v (.int .i64 j))]⟩) (fun j=>j<=rest.length) (fun j=>rest.length-j) 0 (aK _) ?_ ?_
    ·rw[cA,bI,bG];exact leA
    intro j hj;have hl9:((iZ (4-k) gs++(rest.take j).map fun z=>z.put (4-k) (mkR x to)).map iV).length=(iZ (4-k) gs).length+j:=by rw[aA,aC,aA,aV];omega
    rcases aD j rest.length with hjl|hjl
    ·obtain⟨z,hz⟩:=gex hjl;have hnext:((iZ (4-k) gs++(rest.take (j+1)).map fun z=>z.put (4-k) (mkR x to)).map iV)=((iZ (4-k) gs++(rest.take j).map fun z=>z.put (4-k) (mkR x to)).map iV)++[iV (z.put (4-k) (mkR x to))]:=by
      simp only[bE,hz,eH,aQ,aR,bI,cM]
     generalize hA:((iZ (4-k) gs++(rest.take j).map fun z=>z.put (4-k) (mkR x to)).map iV)=A at*;generalize hB:((iZ (4-k) gs++(rest.take (j+1)).map fun z=>z.put (4-k) (mkR x to)).map iV)=B at*;clear hpush hfl hsucc hgi hcall hIH hTop;obtain⟨V,hV⟩:∃V,V=iV (z.put (4-k) (mkR x to)):=⟨_,rfl⟩
     rw[<-hV]at hnext;obtain rfl|rfl|rfl|rfl|rfl:k=0\/k=1\/k=2\/k=3\/k=4:=by omega
     all_goals
      simp only[Nat.reduceSub,aEu,aEv,aEw,aEx,aEy,iV,m1,m2]at hV;rw[hV]at hnext;(repeat' ((conv=>whnf);first|(with_reducible first|refine iI hjl ?_|refine iH hz ?_|refine iI hil ?_|refine iH hx ?_)|(refine kH zd ?_)|refine zG ?_|apply zA|intro h|exact zT));all_goals conv=>whnf
      refine⟨j+1,by omega,by omega,?_⟩;rw[hB,hnext];exact leA
    ·(repeat' ((conv=>whnf);first|refine zG ?_|apply zA|intro h|exact zT));all_goals conv=>whnf
     have hjr:j=rest.length:=by omega
     subst hjr;rw[dF]at*;have e1:=hpush ((.inr (.inr (by rw[hprev.1];exact fun e=>h e.symm))));have e2:(iZ (4-k) (pL (iY (opI c) k a b) (iX (4-k)) st (i+1))).length=(iZ (4-k) gs).length+rest.length:=by rw[e1,aC,aA]
     refine⟨(i+1,iN rest),⟨by simp only;omega,.inr ⟨i,x,rfl,hx,by rw[hdr]⟩⟩,by simp only;omega,?_⟩;simp only;rw[e2,e1];exact leA
   ·refine gV Nat (fun j=>⟨1,[(0,.arr 10 ((iZ (4-k) gs++(rest.take j).map fun z=>z.put (4-k) (mkR x to)).map iV))],[(0,iN a),(1,iN b),(2,.v (.int .i64 c)),(3,.v (.int .i64 ((4-k:Nat):Int))),(9,.os 0 10 0 ((iZ (4-k) gs).length+j)),(10,iN rest),(11,nV st),(12,.v (.int .i64 i)),(13,.v (.int .u64 to)),(14,iN rest),(16,.v (.int .i64 j))]⟩) (fun j=>j<=rest.length) (fun j=>rest.length-j) 0 (aK _) ?_ ?_
    ·rw[cA,bI,bG];exact leA
    intro j hj;have hl9:((iZ (4-k) gs++(rest.take j).map fun z=>z.put (4-k) (mkR x to)).map iV).length=(iZ (4-k) gs).length+j:=by rw[aA,aC,aA,aV];omega
    rcases aD j rest.length with hjl|hjl
    ·obtain⟨z,hz⟩:=gex hjl;have hnext:((iZ (4-k) gs++(rest.take (j+1)).map fun z=>z.put (4-k) (mkR x to)).map iV)=((iZ (4-k) gs++(rest.take j).map fun z=>z.put (4-k) (mkR x to)).map iV)++[iV (z.put (4-k) (mkR x to))]:=by
      simp only[bE,hz,eH,aQ,aR,bI,cM]
     generalize hA:((iZ (4-k) gs++(rest.take j).map fun z=>z.put (4-k) (mkR x to)).map iV)=A at*;generalize hB:((iZ (4-k) gs++(rest.take (j+1)).map fun z=>z.put (4-k) (mkR x to)).map iV)=B at*;clear hpush hfl hsucc hgi hcall hIH hTop;obtain⟨V,hV⟩:∃V,V=iV (z.put (4-k) (mkR x to)):=⟨_,rfl⟩
     rw[<-hV]at hnext;obtain rfl|rfl|rfl|rfl|rfl:k=0\/k=1\/k=2\/k=3\/k=4:=by omega
     all_goals
      simp only[Nat.reduceSub,aEu,aEv,aEw,aEx,aEy,iV,m1,m2]at hV;rw[hV]at hnext;(repeat' ((conv=>whnf);first|(with_reducible first|refine iI hjl ?_|refine iH hz ?_|refine iI hil ?_|refine iH hx ?_)|(refine kH zd ?_)|refine zG ?_|apply zA|intro h|exact zT));all_goals conv=>whnf
      refine⟨j+1,by omega,by omega,?_⟩;rw[hB,hnext];exact leA
    ·(repeat' ((conv=>whnf);first|refine zG ?_|apply zA|intro h|exact zT));all_goals conv=>whnf
     have hjr:j=rest.length:=by omega
     subst hjr;rw[dF]at*;have e1:=hpush ((.inl (by cases rest with|nil=>rfl|cons z rest=>exfalso;simp at h)));have e2:(iZ (4-k) (pL (iY (opI c) k a b) (iX (4-k)) st (i+1))).length=(iZ (4-k) gs).length+rest.length:=by rw[e1,aC,aA]
     refine⟨(i+1,iN rest),⟨by simp only;omega,.inr ⟨i,x,rfl,hx,by rw[hdr]⟩⟩,by simp only;omega,?_⟩;simp only;rw[e2,e1];exact leA
 ·rw[Q8 hil];(repeat' ((conv=>whnf);first|(with_reducible refine iT (by rw[aA]) ?_)|refine zG ?_|apply zA|intro h|exact zT));all_goals conv=>whnf
  exact⟨_,gY,hK⟩
theorem Dj(c:Int):∀(k:Nat),k<=5->∀(a b:List Bx) {K:KT},a.length+b.length<50000->(jH (opI c) k a b).length<=900000000000->K (iN (jH (opI c) k a b)) []->
  AC 154 [iN a,iN b,.v (.int .i64 c),.v (.int .i64 ((5-k:Nat):Int))] [] K
 |0,_,a,b,K,hab,hN,hK=>by
  rw[jH]at hK;refine hJ (Ml rfl rfl ?_);(repeat' ((conv=>whnf);first|(with_reducible refine aFn c _ _ ?_)|refine zG ?_|apply zA|intro h|exact zT));all_goals conv=>whnf
  ·rw[qM,qM]at h;rw[aH h]at hK;exact⟨_,gY,hK⟩
  ·rw[qM,qM]at h;rw[aF (by rw[h];decide)]at hK;exact⟨_,hZ,hK⟩
 |k+1,hk,a,b,K,hab,hN,hK=>by
  rw[show 5-(k+1)=4-k by omega];refine U3 c k zo (fun a b K h1 h2 h3=>?_) a b hab hN hK;rw[show((4-k:Nat):Int)+1=((5-k:Nat):Int) by omega];exact Dj c k zo a b h1 h2 h3
def kL(l:List Bx):List Bx:=l.filter fun b=>decide b.ok
theorem Ez(l:List Bx):(kL l).length<=l.length:=dK ..
theorem Gf{l:List Bx}{k:Nat}{x:Bx}(h:l[k]? =some x):kL (l.take (k+1))=kL (l.take k)++(if x.ok then [x]else []):=by
 rw[bE,h,kL,dP]
 congr 1
 by_cases hc:x.ok<;>simp[hc]
theorem aAW(l:List Bx)(hl:l.length<1000000000000){K:KT}(hK:K (iN (kL l)) []):AC 155 [iN l] [] K:=by
 refine aIC rfl rfl ?_;(repeat' ((conv=>whnf);first|refine zG ?_|apply zA|intro h|exact zT));all_goals conv=>whnf
 refine gV Nat (fun k=>⟨1,[(0,.arr 10 ((kL (l.take k)).map iV))],[(0,iN l),(3,.os 0 10 0 (kL (l.take k)).length),(4,.v (.int .i64 k))]⟩) (fun k=>k<=l.length) (fun k=>l.length-k) 0 (aK _) ?_ ?_
 ·exact leA
 intro k hk;have hlen:=Ez (l.take k);rw[aV]at hlen;rcases aD k l.length with hkl|hkl
 ·obtain⟨x,hx⟩:=gex hkl;have hs:=Gf hx;(repeat' ((conv=>whnf);first|(with_reducible first|refine iI hkl ?_|refine iH hx ?_|refine cr3Val x ?_)|refine zG ?_|apply zA|intro h|exact zT));all_goals conv=>whnf
  all_goals
   refine⟨k+1,by omega,by omega,?_⟩;first
    |(rw[aH h]at hs
      rw[hs,aQ,aC];exact leA)
    |(rw[aF h,bG]at hs
      rw[hs];exact leA)
 ·(repeat' ((conv=>whnf);first|refine zG ?_|apply zA|intro h|exact zT));all_goals conv=>whnf
  rw[aW hkl]at*;(repeat' ((conv=>whnf);first|refine zG ?_|apply zA|intro h|exact zT));all_goals conv=>whnf
  exact hK
def nZ(l:List Bx):List Bx:=if 4096<l.length then []else l
def pM(l:List Bx):Int:=if 4096<l.length then 3 else 0
theorem aAV(l:List Bx){K:KT}(hK:K (.tup [iN (nZ l),.v (.int .i64 (pM l))]) []):AC 166 [iN l] [] K:=by
 refine hJ (aIz rfl rfl ?_);unfold nZ pM at hK;(repeat' ((conv=>whnf);first|refine zG ?_|apply zA|intro h|exact zT));all_goals conv=>whnf
 ·rw[aA]at h;rw[aH zo,aH zo]at hK;exact⟨_,hU hZ gY,hK⟩
 ·rw[aA]at h;rw[aF zo,aF zo]at hK;exact⟨_,gY,hK⟩
theorem La{g:Nat}{a b:List Bx}(hl:a.length=b.length):alike g a b=true↔∀(i:Nat) x y,a[i]? =some x->b[i]? =some y->tI g x y=true:=by
 rw[alike,hl,aJ];simp only[beq_self_eq_true,true_and,bT];constructor
 ·intro h i x y hx hy;exact h (x,y) (aG (i:=i) (by rw[List.getElem?_zip_eq_some];exact⟨hx,hy⟩))
 ·rintro h ⟨x,y⟩ hm
  obtain⟨i,hi⟩:=bH.1 hm;rw[List.getElem?_zip_eq_some]at hi;exact h i x y hi.1 hi.2
theorem aAT(a b:List Bx)(g:Nat)(hg1:1<=g)(hg:g<=5)(ha:a.length<1000000000000)(hb:b.length<1000000000000){K:KT}(hK:K (.sb (alike g a b)) []):AC 326 [iN a,iN b,.v (.int .i64 g)] [] K:=by
 refine gZ (Zm rfl rfl ?_);(repeat' ((conv=>whnf);first|refine zG ?_|apply zA|intro h|exact zT));all_goals conv=>whnf
 ·have hl:a.length=b.length:=by
   rw[aA,aA]at h;omega
  refine gV Nat (fun k=>⟨0,[],[(0,iN a),(1,iN b),(2,.v (.int .i64 g)),(7,.v (.int .i64 k))]⟩) (fun k=>k<=a.length/\∀(i:Nat) x y,i<k->a[i]? =some x->b[i]? =some y->tI g x y=true) (fun k=>a.length-k) 0 ⟨aK _,fun i x y h=>absurd h (bD _)⟩ ?_ ?_
  ·exact leA
  intro k ⟨hk,hinv⟩;rcases aD k a.length with hkl|hkl
  ·have hkb:k<b.length:=by omega
   obtain⟨p,hp⟩:=gex hkl;obtain⟨q,hq⟩:=gex hkb;have yes:tI g p q=true->∀(i:Nat) x y,i<k+1->a[i]? =some x->b[i]? =some y->tI g x y=true:=fun h i x y hi hx hy=>by
    rcases aD i k with h1|h1
    ·exact hinv i x y h1 hx hy
    ·have:i=k:=by omega
     subst this;rw[hp]at hx;rw[hq]at hy;cases hx;cases hy;exact h
   have no:tI g p q=false->alike g a b=false:=fun h=>by
    rw[bY,ne_eq,La hl];intro hh;rw[hh k p q hp hq]at h;cases h
   obtain rfl|rfl|rfl|rfl|rfl:g=1\/g=2\/g=3\/g=4\/g=5:=by omega
   all_goals
    (repeat' ((conv=>whnf);first|(with_reducible refine Lp.times 6 ?_)|(refine kH zd ?_)|(with_reducible first|refine iI hkl ?_|refine iI hkb ?_|refine iH hp ?_|refine iH hq ?_|refine yI ?_)|refine zG ?_|apply zA|intro h|exact zT));all_goals conv=>whnf
    all_goals first
     |(refine⟨k+1,⟨by omega,yes (by simp[tI,List.range,List.range.loop,Bx.get, *])⟩,by omega,?_⟩
       exact leA)
     |exact iU hK (no (by simp[tI,List.range,List.range.loop,Bx.get, *]))
  ·(repeat' ((conv=>whnf);first|refine zG ?_|apply zA|intro h|exact zT));all_goals conv=>whnf
   refine kE hK ((La hl).2 fun i x y hx hy=>hinv i x y (by have:=(aP.1 hx).1;omega) hx hy)
 ·refine iU hK ?_;rw[aA,aA]at h;rw[alike];have:(a.length==b.length)=false:=by
   rw[bY,ne_eq,beq_iff_eq];omega
  rw[this];rfl
def kA(ps:List (List Bx))(r:Nat):Nat:=(ps.take r).flatten.length
theorem Gv{ps:List (List Bx)}{r:Nat}{p:List Bx}(h:ps[r]? =some p):kA ps (r+1)=kA ps r+p.length:=by
 rw[kA,bE,h];simp[kA]
theorem Jc{ps:List (List Bx)}{r:Nat}(h:ps.length<=r):kA ps r=ps.flatten.length:=by rw[kA,aW h]
theorem Eo{ps:List (List Bx)}{r:Nat}{p:List Bx}(h:ps[r]? =some p){j:Nat}(hj:j<p.length):ps.flatten[kA ps r+j]? =p[j]? :=by
 have hr:=(aP.1 h).1;have e:ps.flatten=(ps.take r).flatten++(p++(ps.drop (r+1)).flatten):=by
  have h2:ps=ps.take r++p::ps.drop (r+1):=by
   rw[aE hr]at h;rw[<-bB h,<-bA hr,cU]
  rw[<-eR,<-List.flatten_append,<-h2]
 rw[e,bF (by rw[kA];omega),kA,fN,bJ hj]
theorem Z1{ps:List (List Bx)}{r:Nat}{p:List Bx}(h:ps[r]? =some p):(ps.flatten.drop (kA ps r)).take p.length=p:=by
 apply List.ext_getElem?;intro j;rw[cZ];by_cases hj:j<p.length
 ·rw[aH hj,cJ,Eo h hj]
 ·rw[aF hj,bS zo]
theorem Parts.next{f:Nat}:∀{ps:List (List Bx)},Parts f ps->∀{r:Nat} {p q:List Bx},ps[r]? =some p->ps[r+1]? =some q->kK f p≠kK f q
 |[],_,r,p,q,h,_=>by simp at h
 |p0::ps,hP,0,p,q,h,h2=>by
  simp at h;subst h;cases hP with
  |one=>simp at h2
  |cons _ q' ps' _ _ h3 _=>simp at h2;subst h2;exact h3
 |p0::ps,hP,r+1,p,q,h,h2=>Parts.next hP.tail (by simpa using h) (by simpa using h2)
def jL(ps:List (List Bx)):Nat->List Bx
 |0=>[]
 |r+1=>(ps[r]?).getD []
theorem Yd(k:Nat)(hk:k<=4)(hIH:∀(l:List Bx) {K:KT},l.length<1000000000->K (.sb (nL k l)) []->AC 314 [iN l,.v (.int .i64 (((4-k:Nat):Int)+1))] [] K)
  (l:List Bx)(hl:l.length<1000000000){K:KT}(hK:K (.sb (nL (k+1) l)) []):AC 314 [iN l,.v (.int .i64 ((4-k:Nat):Int))] [] K:=by
 have hf4:4-k<=4:=by omega
 have hP:=uZ (4-k) l;have hfl:=xZ (4-k) l;have hal:∀(a b:List Bx) {K:KT},a.length<1000000000000->b.length<1000000000000->K (.sb (alike (4-k+1) a b)) []->AC 326 [iN a,iN b,.v (.int .i64 (((4-k:Nat):Int)+1))] [] K:=fun a b {K} ha hb h=>by
  rw[show((4-k:Nat):Int)+1=((4-k+1:Nat):Int) by omega];exact aAT a b (4-k+1) zo zo ha hb h
 rw[nL]at hK;generalize sQ (4-k) l=ps at*;have hflen:ps.flatten.length=l.length:=by rw[hfl]
 refine gZ (Rx rfl rfl ?_);(repeat' ((conv=>whnf);first|refine zG ?_|apply zA|intro h|exact zT));all_goals conv=>whnf
 refine gV Nat (fun r=>⟨0,[],[(0,iN l),(1,.v (.int .i64 ((4-k:Nat):Int))),(5,iN (jL ps r)),(6,.v (.int .i64 (kA ps r:Nat)))]⟩) (fun r=>r<=ps.length/\rL (nL k) (4-k) [] ps=rL (nL k) (4-k) (jL ps r) (ps.drop r)) (fun r=>ps.length-r) 0 ⟨aK _,by rw[bP];rfl⟩ ?_ ?_
 ·exact leA
 intro r ⟨hr,hchk⟩;rcases aD r ps.length with hrl|hrl
 ·obtain⟨p,hp⟩:=gex hrl;obtain⟨hp1,hp2⟩:=hP.mem p (aG hp);have hplen:0<p.length:=dC.2 hp1;have hfs:=Gv hp;have hfle:kA ps (r+1)<=l.length:=by
   rw[<-hflen,kA];have:=congrArg List.length (cU (r+1) ps);have e:ps.flatten=(ps.take (r+1)).flatten++(ps.drop (r+1)).flatten:=by rw[<-List.flatten_append,cU]
   rw[e,aC];omega
  have hfrl:kA ps r<l.length:=by omega
  obtain⟨x0,hx0⟩:=gex hplen;have hlx0:l[kA ps r]? =some x0:=by
   have:=Eo hp hplen;rw[hfl,eN,hx0]at this;exact this
  have hx0r:x0.get (4-k)=kK (4-k) p:=hp2 x0 (aG hx0);(repeat' ((conv=>whnf);first|refine zG ?_|apply zA|intro h|exact zT));all_goals conv=>whnf
  refine gV Nat (fun j=>⟨0,[],[(0,iN l),(1,.v (.int .i64 ((4-k:Nat):Int))),(5,iN (jL ps r)),(6,.v (.int .i64 (kA ps r:Nat))),(7,.v (.int .i64 ((kA ps r+j:Nat):Int)))]⟩) (fun j=>j<=p.length) (fun j=>p.length-j) 0 (aK _) ?_ ?_
  ·exact leA
  intro j hj;rcases aD j p.length with hjl|hjl
  ·obtain⟨x,hx⟩:=gex hjl;have hlx:l[kA ps r+j]? =some x:=by
    have:=Eo hp hjl;rw[hfl,hx]at this;exact this
   have hxr:x.get (4-k)=x0.get (4-k):=by rw[hp2 x (aG hx),hx0r]
   have hjl2:kA ps r+j<l.length:=by omega
   clear hchk hK hal hIH hP hp2 hx0r;obtain rfl|rfl|rfl|rfl|rfl:k=0\/k=1\/k=2\/k=3\/k=4:=by omega
   all_goals
    (repeat' ((conv=>whnf);first|(with_reducible first|refine iI hjl2 ?_|refine iI hfrl ?_|refine iH hlx ?_|refine iH hlx0 ?_)|(refine kH zd ?_)|(with_reducible refine yI ?_)|refine zG ?_|apply zA|intro h|exact zT));all_goals conv=>whnf
    all_goals first
     |(exfalso;exact h hxr)
     |(refine⟨j+1,by omega,by omega,?_⟩
       (exact leA))
  ·have hjp:j=p.length:=by omega
   subst hjp;have hsl:∀{K:List AV->Prop},K (p.map iV)->Sl (l.map iV) (kA ps r) (kA ps r+p.length-kA ps r) K:=fun {K} h=>by
    refine mQ zo ?_;rw[fN,<-hfl,Z1 hp];exact h
   have hadd:(kA ps r:Int)+((p.map iV).length:Int)=((kA ps (r+1):Nat):Int):=by rw[hfs,aA];omega
   have hdrop:ps.drop r=p::ps.drop (r+1):=by
    rw[aE hrl]at hp;rw[<-bB hp,<-bA hrl]
   have hlast1:jL ps (r+1)=p:=by rw[jL,hp];rfl
   have hstep:rL (nL k) (4-k) [] ps=(!wN (4-k) (jL ps r) p&&nL k p&&rL (nL k) (4-k) p (ps.drop (r+1))):=by rw[hchk,hdrop,rL]
   have hpl:p.length<=l.length:=by omega
   have hcan:∀{K:KT},K (.sb (nL k p)) []->AC 314 [iN p,.v (.int .i64 (((4-k:Nat):Int)+1))] [] K:=fun h=>hIH p zo h;have hends:(kA ps r+p.length=l.length)\/∃y,l[kA ps r+p.length]? =some y/\y.get (4-k)≠x0.get (4-k):=by
    rcases aD (r+1) ps.length with hn|hn
    ·obtain⟨q,hq⟩:∃q,ps[r+1]? =some q:=⟨_,aE hn⟩
     obtain⟨hq1,hq2⟩:=hP.mem q (aG hq);obtain⟨y,hy⟩:∃y,q[0]? =some y:=⟨_,aE (dC.2 hq1)⟩
     refine .inr ⟨y,?_,?_⟩
     ·have:=Eo hq (dC.2 hq1);rw[hfl,eN,hfs,hy]at this;exact this
     ·rw[hq2 y (aG hy),hx0r];exact(hP.next hp hq).symm
    ·left;rw[<-hfs,Jc zo,hflen]
   have hprev:(kA ps r=0/\jL ps r=[])\/∃pl z0,jL ps r=pl/\pl≠[]/\0<kA ps r/\l[kA ps r-1]? =some z0/\kK (4-k) pl=z0.get (4-k)/\pl.length<=l.length:=by
    cases r with
    |zero=>exact .inl ⟨rfl,rfl⟩
    |succ r'=>
     obtain⟨pl,hpl⟩:∃pl,ps[r']? =some pl:=⟨_,aE zo⟩
     obtain⟨h1,h2⟩:=hP.mem pl (aG hpl);have hlp:=dC.2 h1;have hf:=Gv hpl;obtain⟨z0,hz0⟩:∃z,pl[pl.length-1]? =some z:=⟨_,aE zo⟩
     refine .inr ⟨pl,z0,by rw[jL,hpl];rfl,h1,by omega,?_,(h2 z0 (aG hz0)).symm,by omega⟩;have:=Eo hpl (show pl.length-1<pl.length by omega);rw[hfl,hz0]at this;rw[<-this]
     congr 1
     omega
   obtain⟨cb,hcb⟩:∃cb,nL k p=cb:=⟨_,rfl⟩
   rw[hcb]at hstep;rw[hcb]at hcan;rcases hprev with⟨hz,hlr⟩|⟨pl,z0,hlr,hplne,hpos,hz0,hplr,hpll⟩
   ·have hjo:wN (4-k) (jL ps r) p=false:=by rw[hlr];rfl
    rw[hjo]at hstep;clear hchk hIH hP hp2 hfl hflen hdrop hx0r;rcases hends with hend|⟨y,hly,hne⟩
    ·obtain rfl|rfl|rfl|rfl|rfl:k=0\/k=1\/k=2\/k=3\/k=4:=by omega
     all_goals
      skip
      (repeat' ((conv=>whnf);first|(with_reducible first|refine iI hfrl ?_|refine iH hlx0 ?_)|(refine kH zd ?_)|(with_reducible first|refine yI ?_|refine iF (kA ps r) (kA ps r+p.length) rfl rfl zo (by rw[aA];omega) ?_|refine hsl ?_|refine hcan ?_|refine jO hadd zo zo ?_)|refine zG ?_|apply zA|intro h|exact zT));all_goals conv=>whnf
      all_goals first
       |exact iU hK (by rw[hstep];clear hsl hcan hK hl hfs hfle hfrl hx0 hlx0 hp hadd hlast1 hstep;(try clear hal2 hal1 hz0);simp_all)
       |(refine⟨r+1,⟨by omega,by rw[hstep,hlast1];clear hsl hcan hK hl hfs hfle hfrl hx0 hlx0 hp hadd hlast1 hstep;(try clear hal2 hal1 hz0);simp_all⟩,by omega,?_⟩
         rw[hlast1];(exact leA))
    ·have hlyl:kA ps r+p.length<l.length:=(aP.1 hly).1;obtain rfl|rfl|rfl|rfl|rfl:k=0\/k=1\/k=2\/k=3\/k=4:=by omega
     all_goals
      skip
      (repeat' ((conv=>whnf);first|(with_reducible first|refine iI hlyl ?_|refine iH hly ?_|refine iI hfrl ?_|refine iH hlx0 ?_)|(refine kH zd ?_)|(with_reducible first|refine yI ?_|refine iF (kA ps r) (kA ps r+p.length) rfl rfl zo (by rw[aA];omega) ?_|refine hsl ?_|refine hcan ?_|refine jO hadd zo zo ?_)|refine zG ?_|apply zA|intro h|exact zT));all_goals conv=>whnf
      all_goals first
       |(exfalso;exact hne h)
       |exact iU hK (by rw[hstep];clear hsl hcan hK hl hfs hfle hfrl hx0 hlx0 hp hadd hlast1 hstep;(try clear hal2 hal1 hz0);simp_all)
       |(refine⟨r+1,⟨by omega,by rw[hstep,hlast1];clear hsl hcan hK hl hfs hfle hfrl hx0 hlx0 hp hadd hlast1 hstep;(try clear hal2 hal1 hz0);simp_all⟩,by omega,?_⟩
         rw[hlast1];(exact leA))
   ·obtain⟨al,hal1⟩:∃al,alike (4-k+1) pl p=al:=⟨_,rfl⟩
    have hjo:wN (4-k) (jL ps r) p=(decide ((x0.get (4-k)).lo<=(z0.get (4-k)).hi)||(decide ((x0.get (4-k)).lo=(z0.get (4-k)).hi+1)&&al)):=by
     rw[hlr,wN,hplr,<-hx0r,hal1];cases pl with
     |nil=>exact absurd rfl hplne
     |cons=>rfl
    have hal2:∀{K:KT},K (.sb al) []->AC 326 [iN pl,iN p,.v (.int .i64 (((4-k:Nat):Int)+1))] [] K:=fun h=>hal pl p zo zo (by rw[hal1];exact h);have hzl:kA ps r-1<l.length:=by omega
    have b0:=(z0.get (4-k)).h0;have b1:=(z0.get (4-k)).h1;have b2:=(x0.get (4-k)).l1;rw[hjo]at hstep;rw[hlr];clear hchk hIH hP hp2 hfl hflen hdrop hx0r hal hplr hjo;rcases hends with hend|⟨y,hly,hne⟩
    ·obtain rfl|rfl|rfl|rfl|rfl:k=0\/k=1\/k=2\/k=3\/k=4:=by omega
     all_goals
      simp only[Nat.reduceSub,Bx.get]at hstep b0 b1 b2;(repeat' ((conv=>whnf);first|(with_reducible first|refine iI hfrl ?_|refine iH hlx0 ?_)|(refine kH zd ?_)|(with_reducible first|refine yI ?_|refine iF (kA ps r) (kA ps r+p.length) rfl rfl zo (by rw[aA];omega) ?_|refine hsl ?_|refine hcan ?_|refine jO hadd zo zo ?_|refine iB (kA ps r-1) zo (by rw[aA];omega) ?_|refine iH hz0 ?_|refine hal2 ?_)|refine zG ?_|apply zA|intro h|exact zT));all_goals conv=>whnf
      all_goals first
       |exact iU hK (by rw[hstep];clear hsl hcan hK hl hfs hfle hfrl hx0 hlx0 hp hadd hlast1 hstep;(try clear hal2 hal1 hz0);simp_all)
       |(refine⟨r+1,⟨by omega,by rw[hstep,hlast1];clear hsl hcan hK hl hfs hfle hfrl hx0 hlx0 hp hadd hlast1 hstep;(try clear hal2 hal1 hz0);simp_all⟩,by omega,?_⟩
         rw[hlast1];(exact leA))
    ·have hlyl:kA ps r+p.length<l.length:=(aP.1 hly).1;obtain rfl|rfl|rfl|rfl|rfl:k=0\/k=1\/k=2\/k=3\/k=4:=by omega
     all_goals
      simp only[Nat.reduceSub,Bx.get]at hstep b0 b1 b2;(repeat' ((conv=>whnf);first|(with_reducible first|refine iI hlyl ?_|refine iH hly ?_|refine iI hfrl ?_|refine iH hlx0 ?_)|(refine kH zd ?_)|(with_reducible first|refine yI ?_|refine iF (kA ps r) (kA ps r+p.length) rfl rfl zo (by rw[aA];omega) ?_|refine hsl ?_|refine hcan ?_|refine jO hadd zo zo ?_|refine iB (kA ps r-1) zo (by rw[aA];omega) ?_|refine iH hz0 ?_|refine hal2 ?_)|refine zG ?_|apply zA|intro h|exact zT));all_goals conv=>whnf
      all_goals first
       |(exfalso;exact hne h)
       |exact iU hK (by rw[hstep];clear hsl hcan hK hl hfs hfle hfrl hx0 hlx0 hp hadd hlast1 hstep;(try clear hal2 hal1 hz0);simp_all)
       |(refine⟨r+1,⟨by omega,by rw[hstep,hlast1];clear hsl hcan hK hl hfs hfle hfrl hx0 hlx0 hp hadd hlast1 hstep;(try clear hal2 hal1 hz0);simp_all⟩,by omega,?_⟩
         rw[hlast1];(exact leA))
 ·have e:ps.drop r=[]:=bO hrl;rw[e,rL]at hchk;have hf:kA ps r=l.length:=by rw[Jc hrl,hflen]
  (repeat' ((conv=>whnf);first|refine zG ?_|apply zA|intro h|exact zT));all_goals conv=>whnf
  exact kE hK hchk
theorem Vz:∀(k:Nat),k<=5->∀(l:List Bx) {K:KT},l.length<1000000000->K (.sb (nL k l)) []->AC 314 [iN l,.v (.int .i64 ((5-k:Nat):Int))] [] K
 |0,_,l,K,hl,hK=>by
  refine gZ (Rx rfl rfl ?_);(repeat' ((conv=>whnf);first|refine zG ?_|apply zA|intro h|exact zT));all_goals conv=>whnf
  refine kB hK ?_;rw[nL,aA,bK,beq_iff_eq,aL];omega
 |k+1,hk,l,K,hl,hK=>by
  rw[show 5-(k+1)=4-k by omega];refine Yd k zo (fun l K h1 h2=>?_) l hl hK;rw[show((4-k:Nat):Int)+1=((5-k:Nat):Int) by omega];exact Vz k zo l h1 h2
def jW(l:List Bx):Bool:=decide (l.length<=4096)&&(decide ((kL l).length=l.length)&&nL 5 l)
theorem aFp(l:List Bx)(hl:l.length<1000000000){K:KT}(hK:K (.sb (jW l)) []):AC 304 [iN l] [] K:=by
 have hc:∀{K:KT},K (.sb (nL 5 l)) []->AC 314 [iN l,.v (.int .i64 0)] [] K:=fun h=>Vz 5 (aO _) l hl h;refine gZ (aDH rfl rfl ?_);unfold jW at hK;(repeat' ((conv=>whnf);first|(with_reducible first|refine aAW l zo ?_|refine hc ?_)|refine zG ?_|apply zA|intro h|exact zT));all_goals conv=>whnf
 all_goals
  simp only[aA]at*;first
   |exact kB hK (by rw[decide_eq_true zo,decide_eq_true zo];rfl)
   |exact iU hK (by rw[decide_eq_true zo,decide_eq_false zo];rfl)
   |exact iU hK (by rw[decide_eq_false zo];rfl)
def rI(s:List Bx)(b:Bx):List Bx:=jH orB 5 s [b]
def kO:List Bx->List Bx->List Bx×Int
 |s,[]=>(s,0)
 |s,b::l=>if b.ok then(if 4096<(rI s b).length then([],3)else kO (rI s b) l)else kO s l
def kX(l:List Bx):List Bx×Int:=kO [] l
theorem opI_0:opI 0=orB:=by funext x y;rfl
theorem aGR(out:List (Grp (List Bx)))(s:Int×Int)(rest:List Bx):kG (grow eqB out s rest)<=kG out+rest.length:=by
 unfold grow;split
 ·exact Nat.le_add_right _ _
 ·rcases dI out with hn|⟨ini,g,hc⟩
  ·subst hn;simp[kG]
  ·rw[dJ]at hc;subst hc;simp only[cW,cO,dT,dM];split
   ·simp only[mF];omega
   ·simp only[mF];omega
theorem Sk(top:Int):∀st:List Int,(mC top st).map (·.1)=st
 |[]=>rfl
 |[x]=>rfl
 |x::y::r=>by
  have:=Sk top (y::r);simp only[mC,aR,this]
theorem xN(R:Int->List Bx)(top:Int)(st:List Int):kG (lD R top st)<=(st.map fun e=>(R e).length).sum:=by
 have go:∀(l:List (Int×Int)) (out:List (Grp (List Bx))),kG (l.foldl (fun out s=>grow eqB out s (R s.1)) out)<=kG out+(l.map fun s=>(R s.1).length).sum:=by
  intro l
  induction l with
  |nil=>intro out;simp
  |cons s l ih=>
   intro out;have h1:=ih (grow eqB out s (R s.1));have h2:=aGR out s (R s.1);simp only[fJ,aR,cX];omega
 have h:=go (mC top st) [];have e:(mC top st).map (fun s=>(R s.1).length)=st.map fun e=>(R e).length:=by
  have:=congrArg (List.map fun e=>(R e).length) (Sk top st);rw[gU]at this;exact this
 rw[e]at h;simpa[kG,lD]using h
theorem Sn(l:List Rg)(top:Int):∀x,x∈starts l top->x=0\/∃r,r∈l/\(x=r.lo\/x=r.hi+1):=by
 have go:∀(m:List Rg) (out:List Int),(∀x,x∈out->x=0\/∃r,r∈l/\(x=r.lo\/x=r.hi+1))->(∀r,r∈m->r∈l)->∀x,x∈m.foldl (stP top) out->x=0\/∃r,r∈l/\(x=r.lo\/x=r.hi+1):=by
  intro m
  induction m with
  |nil=>intro out h _ x hx;exact h x hx
  |cons r m ih=>
   intro out h hm x hx;refine ih (stP top out r) (fun y hy=>?_) (fun z hz=>hm z (aS _ hz)) x hx;unfold stP at hy;split at hy
   ·rw[mem_insT,mem_insT]at hy;rcases hy with(hy|⟨hy,_⟩)|⟨hy,_⟩
    ·exact h y hy
    ·exact .inr ⟨r,hm r zx,.inl hy⟩
    ·exact .inr ⟨r,hm r zx,.inr hy⟩
   ·exact h y hy
 exact go l [0] (fun x hx=>.inl (by simpa using hx)) fun r hr=>hr
theorem rZ:∀{l m:List Int},l.Nodup->(∀x,x∈l->x∈m)->l.length<=m.length
 |[],m,_,_=>aK _
 |x::l,m,hn,hs=>by
  obtain⟨h1,h2⟩:=List.nodup_cons.1 hn;have hx:=hs x zx;have:=rZ (m:=m.erase x) h2 fun y hy=>by
   have hne:y≠x:=fun e=>h1 (e▸hy);exact(List.mem_erase_of_ne hne).2 (hs y (aS _ hy))
  rw[List.length_erase_of_mem hx]at this;have hpos:0<m.length:=List.length_pos_of_mem hx;simp only[aB];omega
def Cn:Nat->List Bx->Prop
 |0,a=>a.length<=1
 |k+1,a=>(∀x,x∈a->∀y,y∈a->x.get (4-k)=y.get (4-k)\/(x.get (4-k)).hi<(y.get (4-k)).lo\/(y.get (4-k)).hi<(x.get (4-k)).lo)/\(∀x,x∈a->(x.get (4-k)).lo<=(x.get (4-k)).hi)/\∀v,Cn k (atF (4-k) v a)
theorem aFd{φ:Bx->Bx}{f:Nat}{v:Int}(h:∀b,(φ b).get f=b.get f)(l:List Bx):atF f v (l.map φ)=(atF f v l).map φ:=by
 rw[atF,atF,List.filter_map]
 congr 1
 refine List.filter_congr fun b _=>?_;simp only[Function.comp,h]
theorem Cn.map{φ:Bx->Bx}:∀{k:Nat} {l:List Bx},k<=5->(∀b f,f<=4->5<=f+k->(φ b).get f=b.get f)->Cn k l->Cn k (l.map φ)
 |0,l,_,_,h=>by rw[Cn]at h⊢;rw[aA];exact h
 |k+1,l,hk,hφ,h=>by
  obtain⟨h1,h2,h3⟩:=h;have hf:∀b,(φ b).get (4-k)=b.get (4-k):=fun b=>hφ b (4-k) zo zo;refine⟨fun x hx y hy=>?_,fun x hx=>?_,fun v=>?_⟩
  ·obtain⟨x,gx,rfl⟩:=bQ.1 hx;obtain⟨y,gy,rfl⟩:=bQ.1 hy;rw[hf,hf];exact h1 x gx y gy
  ·obtain⟨x,gx,rfl⟩:=bQ.1 hx;rw[hf];exact h2 x gx
  ·rw[aFd hf];exact Cn.map zo (fun b f h4 h5=>hφ b f h4 zo) (h3 v)
theorem Cn.nil:∀(k:Nat),Cn k []
 |0=>aK _
 |k+1=>⟨fun x hx=>by simp at hx,fun x hx=>by simp at hx,fun v=>Cn.nil k⟩
theorem Lg{f:Nat}(hf:f<=4){v:Int}:∀{gs:List (Grp (List Bx))},Wf gs->(∀g,g∈gs->0<=g.lo/\g.hi<=4294967295)->(atF f v (iZ f gs)=[]\/∃g,g∈gs/\g.lo<=v/\v<=g.hi/\atF f v (iZ f gs)=g.val.map fun b=>b.put f (mkR g.lo g.hi))
 |[],_,_=>.inl rfl
 |g::gs,hw,hb=>by
  have hg:=hb g zx;have hle:=hw.head;have e:atF f v (iZ f (g::gs))=atF f v (g.val.map fun b=>b.put f (mkR g.lo g.hi))++atF f v (iZ f gs):=by
   rw[iZ,cS,atF,dP];rfl
  have hget:∀b:Bx,(b.put f (mkR g.lo g.hi)).get f=mkR g.lo g.hi:=fun b=>get_put hf;have m1:=kI hg.1 (show g.lo<=4294967295 by omega) (show 0<=g.hi by omega) hg.2;have m2:=kP hg.1 (show g.lo<=4294967295 by omega) (show 0<=g.hi by omega) hg.2;have ih:=Lg hf (v:=v) hw.tail fun x hx=>hb x (aS _ hx);by_cases hc:g.lo<=v/\v<=g.hi
  ·have e1:atF f v (g.val.map fun b=>b.put f (mkR g.lo g.hi))=g.val.map fun b=>b.put f (mkR g.lo g.hi):=dW.2 fun x hx=>by
    obtain⟨b,_,rfl⟩:=bQ.1 hx;rw[hget,m1,m2,decide_eq_true hc.1,decide_eq_true hc.2];rfl
   have e2:atF f v (iZ f gs)=[]:=by
    rcases ih with h|⟨h,hh,h1,h2,_⟩
    ·exact h
    ·have:=hw.above h hh;omega
   exact .inr ⟨g,by simp,hc.1,hc.2,by rw[e,e1,e2,bG]⟩
  ·have e1:atF f v (g.val.map fun b=>b.put f (mkR g.lo g.hi))=[]:=fR.2 fun x hx=>by
    obtain⟨b,_,rfl⟩:=bQ.1 hx;rw[hget,m1,m2,aJ,aL,aL];exact hc
   rw[e,e1,dB];rcases ih with h|⟨h,hh,h1⟩
   ·exact .inl h
   ·exact .inr ⟨h,aS _ hh,h1⟩
theorem Sz:∀{gs:List (Grp (List Bx))},Wf gs->∀g,g∈gs->∀h,h∈gs->g=h\/g.hi<h.lo\/h.hi<g.lo
 |[],_,g,hg,_,_=>by simp at hg
 |x::gs,hw,g,hg,h,hh=>by
  rcases aZ.1 hg with e1|g1
  ·rcases aZ.1 hh with e2|h1
   ·exact .inl (e1.trans e2.symm)
   ·subst e1;exact .inr (.inl (hw.above h h1).1)
  ·rcases aZ.1 hh with e2|h1
   ·subst e2;exact .inr (.inr (hw.above g g1).1)
   ·exact Sz hw.tail g g1 h h1
theorem Nq(op:Bool->Bool->Bool):∀(k:Nat) (a b:List Bx),k<=5->Cn k (jH op k a b)
 |0,a,b,_=>by rw[jH,Cn];split<;>simp
 |k+1,a,b,hk=>by
  have g:=cano_wf op k a b;have ht:=kF (4-k);rw[kT];have hat:∀x,x∈lD (iY op k a b) (iX (4-k)) (starts (lO (4-k) a b) (iX (4-k)))->x.val=iY op k a b x.lo:=fun x hx=>by
   have h1:=g.low x hx;have h2:=g.wf.le x hx;have:=g.wf.at_mem hx (cC _) h2;rw[g.at_,aH zo,lab]at this;split at this
   ·cases this
   ·exact(bB this).symm
  generalize lD (iY op k a b) (iX (4-k)) (starts (lO (4-k) a b) (iX (4-k)))=G at*;have hb:∀x,x∈G->0<=x.lo/\x.hi<=4294967295:=fun x hx=>by have:=g.low x hx;omega
  have rg:∀x,x∈iZ (4-k) G->∃gr,gr∈G/\(x.get (4-k)).lo=gr.lo/\(x.get (4-k)).hi=gr.hi:=fun x hx=>by
   obtain⟨gr,hgr,hx⟩:=eA.1 hx;obtain⟨z,_,rfl⟩:=bQ.1 hx;have h1:=hb gr hgr;have h2:=g.wf.le gr hgr;refine⟨gr,hgr,?_,?_⟩
   ·rw[get_put zo,kI zo zo zo zo]
   ·rw[get_put zo,kP zo zo zo zo]
  refine⟨fun x hx y hy=>?_,fun x hx=>?_,fun v=>?_⟩
  ·obtain⟨gx,hgx,x1,x2⟩:=rg x hx;obtain⟨gy,hgy,y1,y2⟩:=rg y hy;rcases Sz g.wf gx hgx gy hgy with h|h|h
   ·subst h;left;have e1:(x.get (4-k)).lo=(y.get (4-k)).lo:=by rw[x1,y1]
    have e2:(x.get (4-k)).hi=(y.get (4-k)).hi:=by rw[x2,y2]
    generalize x.get (4-k)=r at*;generalize y.get (4-k)=s at*;cases r;cases s;simp only at e1 e2;subst e1;subst e2;rfl
   ·right;left;omega
   ·right;right;omega
  ·obtain⟨gx,hgx,x1,x2⟩:=rg x hx;have:=g.wf.le gx hgx;omega
  ·rcases Lg (f:=4-k) zo (v:=v) g.wf hb with h|⟨gr,hgr,_,_,h⟩
   ·rw[h];exact Cn.nil k
   ·rw[h];refine Cn.map zo (fun b f h4 h5=>sK zo h4 zo) ?_;rw[hat gr hgr];exact Nq op k _ _ zo
/-! ### Counting -/
def inR(r:Rg)(e:Int):Bool:=decide (r.lo<=e)&&decide (e<=r.hi)
theorem P7(f:Nat)(e:Int)(x:Bx)(l:List Bx):(atF f e (x::l)).length=(if inR (x.get f) e then 1 else 0)+(atF f e l).length:=by
 rw[atF,fH,inR];split
 ·simp[atF,Nat.add_comm]
 ·simp[atF]
theorem aJU(p:Int->Bool)(st:List Int):(st.map fun e=>if p e=true then 1 else 0).sum=(st.filter p).length:=by
 induction st with
 |nil=>rfl
 |cons e st ih=>
  rw[aR,cX,ih,fH];split<;>simp<;>omega
theorem yC(f g:Int->Nat)(st:List Int):(st.map fun e=>f e+g e).sum=(st.map f).sum+(st.map g).sum:=by
 induction st with
 |nil=>rfl
 |cons e st ih=>simp only[aR,cX,ih];omega
theorem Eu{f g:Int->Nat}{st:List Int}(h:∀e,e∈st->f e<=g e):(st.map f).sum<=(st.map g).sum:=by
 induction st with
 |nil=>exact aO _
 |cons e st ih=>
  have h1:=h e zx;have h2:=ih fun x hx=>h x (aS _ hx);simp only[aR,cX];omega
theorem Sr(c:Nat)(f:Int->Nat)(st:List Int):(st.map fun e=>c*f e).sum=c*(st.map f).sum:=by
 induction st with
 |nil=>rfl
 |cons e st ih=>simp only[aR,cX,ih,gF]
theorem sF{f:Nat}{st:List Int}{N:Nat}:∀{a:List Bx},(∀x,x∈a->(st.filter (inR (x.get f))).length<=N)->(st.map fun e=>(atF f e a).length).sum<=a.length*N
 |[],_=>by
  rw[show(st.map fun e=>(atF f e []).length)=st.map fun _=>0 from rfl];have:∀l:List Int,(l.map fun _=>0).sum=0:=by
   intro l;induction l with
   |nil=>rfl
   |cons x l ih=>simpa using ih
  rw[this];exact aK _
 |x::a,h=>by
  have ih:=sF (a:=a) fun y hy=>h y (aS _ hy);have hx:=h x zx;have e:(st.map fun e=>(atF f e (x::a)).length)=st.map fun e=>(if inR (x.get f) e=true then 1 else 0)+(atF f e a).length:=by
   refine eF fun e _=>?_;rw[P7]
  rw[e,yC,aJU,aB,cE];omega
theorem uQ{st:List Int}(h:st.Pairwise (· < ·))(p:Int->Bool):(st.filter p).Nodup:=by
 refine List.Pairwise.imp ?_ (List.Pairwise.filter p h);intro a b hab e;omega
def FromB(f:Nat)(c d:List Bx)(e:Int):Prop:=e=0\/(∃y,y∈c/\(e=(y.get f).lo\/e=(y.get f).hi+1))\/∃y,y∈d/\(e=(y.get f).lo\/e=(y.get f).hi+1)
theorem sY(f:Nat)(a b:List Bx)(top:Int):∀e,e∈starts (lO f a b) top->FromB f a b e:=fun e he=>by
 rcases Sn _ _ e he with h0|⟨r,hr,hre⟩
 ·exact .inl h0
 ·rcases aX.1 hr with hr|hr
  ·obtain⟨y,hy,rfl⟩:=bQ.1 hr;exact .inr (.inl ⟨y,hy,hre⟩)
  ·obtain⟨y,hy,rfl⟩:=bQ.1 hr;exact .inr (.inr ⟨y,hy,hre⟩)
theorem FromB.symm{f:Nat}{c d:List Bx}{e:Int}(h:FromB f c d e):FromB f d c e:=by
 rcases h with h|h|h
 ·exact .inl h
 ·exact .inr (.inr h)
 ·exact .inr (.inl h)
theorem Iu{k:Nat}{c d:List Bx}(hc:Cn (k+1) c){x:Bx}(hx:x∈c){e:Int}(he:FromB (4-k) c d e)(h1:(x.get (4-k)).lo<=e)(h2:e<=(x.get (4-k)).hi):e=(x.get (4-k)).lo\/∃y,y∈d/\(e=(y.get (4-k)).lo\/e=(y.get (4-k)).hi+1):=by
 rcases he with h0|⟨y,hy,hre⟩|h
 ·have:=(x.get (4-k)).l0;left;omega
 ·left;have hy2:=hc.2.1 y hy;rcases hc.1 x hx y hy with h|h|h
  ·rw[<-h]at hre;omega
  ·omega
  ·omega
 ·exact .inr h
theorem cnt_le{k:Nat}{c d:List Bx}{st:List Int}(hs:st.Pairwise (· < ·))(hf:∀e,e∈st->FromB (4-k) c d e)(hc:Cn (k+1) c){x:Bx}(hx:x∈c):(st.filter (inR (x.get (4-k)))).length<=1+2*d.length:=by
 have hsub:=rZ (uQ hs (inR (x.get (4-k)))) (m:=(x.get (4-k)).lo::(d.flatMap fun y=>[(y.get (4-k)).lo,(y.get (4-k)).hi+1])) fun e he=>by
  obtain⟨h1,h2⟩:=cR.1 he;rw[inR,aJ,aL,aL]at h2;rcases Iu hc hx (hf e h1) h2.1 h2.2 with h|⟨y,hy,h⟩
  ·rw[h];exact List.mem_cons_self
  ·refine aS _ (eA.2 ⟨y,hy,?_⟩);rcases h with h|h
   ·simp[h]
   ·simp[h]
 have hlen:∀b:List Bx,(b.flatMap fun y=>[(y.get (4-k)).lo,(y.get (4-k)).hi+1]).length=2*b.length:=by
  intro b
  induction b with
  |nil=>rfl
  |cons y b ih=>rw[cS,aC,ih];simp;omega
 rw[aB,hlen]at hsub;omega
theorem aFg{k:Nat}{a b:List Bx}{st:List Int}(hs:st.Pairwise (· < ·))(hf:∀e,e∈st->FromB (4-k) a b e)(ha:Cn (k+1) a)(hb:Cn (k+1) b){x y:Bx}(hx:x∈a)(hy:y∈b):
  ((st.filter (inR (x.get (4-k)))).filter (inR (y.get (4-k)))).length<=2:=by
 have hsub:=rZ (List.Nodup.sublist List.filter_sublist (uQ hs (inR (x.get (4-k))))) (l:=(st.filter (inR (x.get (4-k)))).filter (inR (y.get (4-k)))) (m:=[(x.get (4-k)).lo,(y.get (4-k)).lo]) fun e he=>by
  obtain⟨h1,h3⟩:=cR.1 he;obtain⟨h1,h2⟩:=cR.1 h1;rw[inR,aJ,aL,aL]at h2 h3;have hx2:=ha.2.1 x hx;have hy2:=hb.2.1 y hy;rcases hf e h1 with h|h|h
  ·have:=(x.get (4-k)).l0;have e1:e=(x.get (4-k)).lo:=by omega
   rw[e1];simp
  ·rcases Iu (d:=[]) ha hx (.inr (.inl h)) h2.1 h2.2 with h|⟨z,hz,_⟩
   ·rw[h];simp
   ·simp at hz
  ·rcases Iu (d:=[]) hb hy (.inr (.inl h)) h3.1 h3.2 with h|⟨z,hz,_⟩
   ·rw[h];simp
   ·simp at hz
 simpa using hsub
theorem Sq(p:Int->Bool)(g:Int->Nat)(st:List Int):(st.map fun e=>(if p e=true then 1 else 0)*g e).sum=((st.filter p).map g).sum:=by
 induction st with
 |nil=>rfl
 |cons e st ih=>
  rw[aR,cX,ih,fH];split<;>simp
theorem zV{f N:Nat}{b:List Bx}{st:List Int}:∀{a:List Bx},(∀x,x∈a->∀y,y∈b->((st.filter (inR (x.get f))).filter (inR (y.get f))).length<=N)->(st.map fun e=>(atF f e a).length*(atF f e b).length).sum<=a.length*(b.length*N)
 |[],_=>by
  have:∀l:List Int,(l.map fun e=>(atF f e []).length*(atF f e b).length).sum=0:=by
   intro l;induction l with
   |nil=>rfl
   |cons x l ih=>rw[aR,cX,ih];simp[atF]
  rw[this];exact aK _
 |x::a,h=>by
  have ih:=zV (a:=a) fun y hy=>h y (aS _ hy);have hx:=sF (f:=f) (st:=st.filter (inR (x.get f))) (N:=N) (a:=b) fun y hy=>h x zx y hy;have e:(st.map fun e=>(atF f e (x::a)).length*(atF f e b).length)=st.map fun e=>(if inR (x.get f) e=true then 1 else 0)*(atF f e b).length+(atF f e a).length*(atF f e b).length:=by
   refine eF fun e _=>?_;rw[P7,cE]
  rw[e,yC,Sq,aB,cE];omega
theorem aJV(st:List Int):(st.map fun _=>1).sum=st.length:=by
 induction st with
 |nil=>rfl
 |cons e st ih=>simp only[aR,cX,ih,aB];omega
theorem aAr(op:Bool->Bool->Bool)(m:Nat):∀(k:Nat) (a b:List Bx),k<=5->Cn k a->b.length<=m->(jH op k a b).length<=(a.length+1)*(2*m+3)^k
 |0,a,b,_,_,_=>by
  rw[jH,Nat.pow_zero,gG];split<;>simp
 |k+1,a,b,hk,ha,hb=>by
  rw[kT,pB];refine bC (xN _ _ _) ?_;have hstl:=qO (lO (4-k) a b) (kF (4-k)).1;have hrl:(lO (4-k) a b).length=a.length+b.length:=by rw[lO,aC,aA,aA]
  have h1:((starts (lO (4-k) a b) (iX (4-k))).map fun e=>(iY op k a b e).length).sum<=((starts (lO (4-k) a b) (iX (4-k))).map fun e=>(2*m+3)^k*((atF (4-k) e a).length+1)).sum:=Eu fun e _=>by
   have:=aAr op m k (atF (4-k) e a) (atF (4-k) e b) zo (ha.2.2 e) (bC (dK ..) hb);rw[gR];exact this
  have h2:=sF (f:=4-k) (st:=starts (lO (4-k) a b) (iX (4-k))) (N:=1+2*b.length) (a:=a) fun x hx=>cnt_le (oC (lO (4-k) a b) (kF (4-k)).1).sorted (sY (4-k) a b (iX (4-k))) ha hx;generalize starts (lO (4-k) a b) (iX (4-k))=st at*;have h3:(st.map fun e=>(atF (4-k) e a).length+1).sum=(st.map fun e=>(atF (4-k) e a).length).sum+st.length:=by
   rw[yC]
   congr 1
   clear h1 h2 hstl
   induction st with
   |nil=>rfl
   |cons e st ih=>simp only[aR,cX,ih,aB];omega
  rw[Sr,h3]at h1;refine bC h1 ?_;have h4:(st.map fun e=>(atF (4-k) e a).length).sum+st.length<=(a.length+1)*(2*m+3):=by
   have h5:a.length*(1+2*b.length)<=a.length*(1+2*m):=dV _ zo;have h6:(a.length+1)*(2*m+3)=a.length*(1+2*m)+2*a.length+(2*m+3):=by
    rw[cE,fQ,gF,gF,gG];omega
   rw[h6,hrl]at*;omega
  calc(2*m+3)^k*((st.map fun e=>(atF (4-k) e a).length).sum+st.length)<=(2*m+3)^k*((a.length+1)*(2*m+3)):=dV _ h4
   _=(a.length+1)*(2*m+3)^(k+1):=by rw[Nat.pow_succ,Nat.mul_left_comm]
theorem aAs(op:Bool->Bool->Bool):∀(k:Nat) (a b:List Bx),k<=5->Cn k a->Cn k b->(jH op k a b).length<=6^k*((a.length+1)*(b.length+1))
 |0,a,b,_,_,_=>by
  have h1:1<=(a.length+1)*(b.length+1):=Nat.mul_pos zo zo;rw[jH,Nat.pow_zero,fQ];split
  ·exact h1
  ·exact aK _
 |k+1,a,b,hk,ha,hb=>by
  rw[kT,pB];refine bC (xN _ _ _) ?_;have hstl:=qO (lO (4-k) a b) (kF (4-k)).1;have hrl:(lO (4-k) a b).length=a.length+b.length:=by rw[lO,aC,aA,aA]
  have hs:=(oC (lO (4-k) a b) (kF (4-k)).1).sorted;have hf:=sY (4-k) a b (iX (4-k));have h1:((starts (lO (4-k) a b) (iX (4-k))).map fun e=>(iY op k a b e).length).sum<=((starts (lO (4-k) a b) (iX (4-k))).map fun e=>6^k*(((atF (4-k) e a).length*(atF (4-k) e b).length+(atF (4-k) e a).length)+((atF (4-k) e b).length+1))).sum:=Eu fun e _=>by
   have:=aAs op k (atF (4-k) e a) (atF (4-k) e b) zo (ha.2.2 e) (hb.2.2 e);have e2:((atF (4-k) e a).length*(atF (4-k) e b).length+(atF (4-k) e a).length)+((atF (4-k) e b).length+1)=((atF (4-k) e a).length+1)*((atF (4-k) e b).length+1):=by
    rw[cE,gF,gG,fQ]
   rw[e2];exact this
  have h2:=sF (f:=4-k) (st:=starts (lO (4-k) a b) (iX (4-k))) (N:=1+2*b.length) (a:=a) fun x hx=>cnt_le hs hf ha hx;have h3:=sF (f:=4-k) (st:=starts (lO (4-k) a b) (iX (4-k))) (N:=1+2*a.length) (a:=b) fun x hx=>cnt_le hs (fun e he=>(hf e he).symm) hb hx;have h4:=zV (f:=4-k) (st:=starts (lO (4-k) a b) (iX (4-k))) (N:=2) (a:=a) (b:=b) fun x hx y hy=>aFg hs hf ha hb hx hy;generalize starts (lO (4-k) a b) (iX (4-k))=st at*;rw[Sr,yC,yC,yC,aJV]at h1;refine bC h1 ?_;have h5:(st.map fun e=>(atF (4-k) e a).length*(atF (4-k) e b).length).sum+(st.map fun e=>(atF (4-k) e a).length).sum+((st.map fun e=>(atF (4-k) e b).length).sum+st.length)<=6*((a.length+1)*(b.length+1)):=by
   have e1:a.length*(1+2*b.length)=a.length+2*(a.length*b.length):=by rw[gF,gG,Nat.mul_left_comm]
   have e2:b.length*(1+2*a.length)=b.length+2*(a.length*b.length):=by rw[gF,gG,Nat.mul_left_comm,gR b.length]
   have e3:a.length*(b.length*2)=2*(a.length*b.length):=by rw[gR b.length,Nat.mul_left_comm]
   have e4:(a.length+1)*(b.length+1)=a.length*b.length+a.length+b.length+1:=by rw[cE,gF,gG,fQ];omega
   rw[e1]at h2;rw[e2]at h3;rw[e3]at h4;rw[e4];rw[hrl]at hstl;omega
  calc 6^k*_<=6^k*(6*((a.length+1)*(b.length+1))):=dV _ h5
   _=6^(k+1)*((a.length+1)*(b.length+1)):=by rw[Nat.pow_succ,Nat.mul_assoc]
end Go.Proofs.YtgicddadddhonaaGreatDoor
