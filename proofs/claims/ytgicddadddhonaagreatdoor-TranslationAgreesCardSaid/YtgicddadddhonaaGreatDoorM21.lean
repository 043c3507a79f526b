/- Lemmas. -/
import Derived.Test.YtgicddadddhonaaGreatDoorM20
set_option linter.unusedVariables false
set_option linter.unusedSimpArgs false
set_option maxRecDepth 100000
set_option maxHeartbeats 4000000
noncomputable section
namespace Go.Proofs.YtgicddadddhonaaGreatDoor
open Go Go.Vm
theorem aKC(a b:List Bx)(ha:a.length<1000000000000)(hb:b.length<1000000000000){K:KT}(hK:K (.sb (decide (a=b))) []):AC 299 [iN a,iN b] [] K:=by
 refine gZ (aQK rfl rfl ?_);(repeat' ((conv=>whnf);first|refine zG ?_|apply zA|intro h|exact zT));all_goals conv=>whnf
 ·have hl:a.length=b.length:=by
   rw[aA,aA]at h;omega
  refine gV Nat (fun k=>⟨0,[],[(0,iN a),(1,iN b),(12,.v (.int .i64 ((a.map iV).length:Nat))),(13,.v (.int .i64 k))]⟩) (fun k=>k<=a.length/\∀i,i<k->a[i]? =b[i]?) (fun k=>a.length-k) 0 ?_ ?_ ?_
  ·exact⟨aK _,fun i h=>absurd h (bD _)⟩
  ·exact leA
  intro k ⟨hk,hinv⟩;rcases aD k a.length with hkl|hkl
  ·have hkb:k<b.length:=by omega
   obtain⟨p,hp⟩:=gex hkl;obtain⟨q,hq⟩:=gex hkb;(repeat' ((conv=>whnf);first|(with_reducible first|refine iI hkl ?_|refine iI hkb ?_|refine iH hp ?_|refine iH hq ?_|refine eqv_X ?_)|refine zG ?_|apply zA|intro h|exact zT));all_goals conv=>whnf
   all_goals first
    |(refine⟨k+1,⟨by omega,fun i hi=>?_⟩,by omega,?_⟩
      ·rcases aD i k with h1|h1
       ·exact hinv i h1
       ·rw[show i=k by omega,hp,hq,h]
      ·rw[aN,aM];(exact leA))
    |(refine iU hK (decide_eq_false fun e=>?_)
      subst e;rw[hp]at hq;cases hq;exact h rfl)
  ·have hab:a=b:=by
    apply List.ext_getElem?;intro i;rcases aD i k with h1|h1
    ·exact hinv i h1
    ·rw[bS zo,bS zo]
   (repeat' ((conv=>whnf);first|refine zG ?_|apply zA|intro h|exact zT));all_goals conv=>whnf
   exact kE hK (decide_eq_true hab)
 ·exact iU hK (decide_eq_false fun e=>h (by rw[e]))
abbrev aBq(g:Grp (List Bx)):AV:=.agg [.v (.int .u32 g.lo),.v (.int .u32 g.hi),iN g.val]
def Opf(f:FuncId)(op:Bool->Bool->Bool):Prop:=∀(x y:Bool) {K:KT},K (.sb (op x y)) []->AC f [.sb x,.sb y] [] K
theorem Opf.ap{f:FuncId}{op:Bool->Bool->Bool}(h:Opf f op)(x y:Bool){K:KT}(hK:K (.sb (op x y)) []):AC f [.sb x,.sb y] [] K:=h x y hK
theorem Opf.ff{f:FuncId}{op:Bool->Bool->Bool}(h:Opf f op){K:KT}(hK:K (.sb (op false false)) []):AC f [.v (.bool false),.v (.bool false)] [] K:=
 ACall.args (ys:=[.sb false,.sb false]) ⟨Weak.bool,Weak.bool,trivial⟩ (h false false hK)
theorem zI:Opf 264 orB:=fun x y K hK=>aBg x y hK
theorem aEn:Opf 263 anB:=fun x y K hK=>aLY x y hK
theorem Ry:Opf 139 woB:=fun x y K hK=>aMd x y hK
theorem aEM{xs zs:List AV}{n:Nat}{K:List AV->Prop}(h:xs.length=n)(hk:K xs):Sl (xs++zs) 0 n K:=
 iE (by rw[aC];omega) (by rw[bP,gP h]) hk
theorem Kj{M:Int}:∀(l:List Int) (c:Int),c<=M+1->l.Pairwise (· < ·)->(∀x,x∈l->c<=x/\x<=M)->c+l.length<=M+1
 |[],c,hc,_,_=>by simpa using hc
 |x::l,c,hc,hp,h=>by
  obtain⟨h1,h2⟩:=cG.1 hp;have hx:=h x zx;have h3:∀y,y∈l->x+1<=y/\y<=M:=fun y hy=>by have:=h1 y hy;have:=h y (aS _ hy);omega
  have:=Kj l (x+1) zo h2 h3;rw[aB];omega
theorem aCd{gs:List (Grp (List Bx))}(h:∀g,g∈gs->g.val≠[]):gs.length<=kG gs:=by
 induction gs with
 |nil=>exact aK _
 |cons g gs ih=>
  have h1:=ih fun x hx=>h x (aS _ hx);have h2:1<=g.val.length:=by
   have:=h g zx;cases hv:g.val with
   |nil=>exact absurd hv this
   |cons=>simp
  simp only[kG,aR,cX,aB]at*;omega
theorem aAD(fn:FuncId)(op:Bool->Bool->Bool)(hop:Opf fn op)(most:Nat)(hm1:1<=most)(hm2:most<1000000000)(k:Nat)(hk:k<=4)
  (hIH:∀(a b:List Bx) {K:KT},okL a->okL b->a.length<1000000000->b.length<1000000000->K (.tup [iN (if(jH op k a b).length<=most then jH op k a b else []),.sb (decide ((jH op k a b).length<=most))]) []->AC 269 [.v (.int .i64 (((4-k:Nat):Int)+1)),iN a,iN b,.fn (.func fn) [] [],.v (.int .i64 most)] [] K)
  (a b:List Bx){K:KT}(hoa:okL a)(hob:okL b)(ha:a.length<1000000000)(hb:b.length<1000000000)(hK:K (.tup [iN (if(jH op (k+1) a b).length<=most then jH op (k+1) a b else []),.sb (decide ((jH op (k+1) a b).length<=most))]) []):
  AC 269 [.v (.int .i64 ((4-k:Nat):Int)),iN a,iN b,.fn (.func fn) [] [],.v (.int .i64 most)] [] K:=by
 have hf4:4-k<=4:=by omega
 have ht:=kF (4-k);have hdead:a.length+b.length=0->op false false=false->jH op (k+1) a b=[]:=fun h h2=>by
  have e1:a=[]:=cT.1 zo;have e2:b=[]:=cT.1 zo;rw[e1,e2];exact rU op h2 (k+1)
 refine hJ (aEc rfl rfl ?_);(repeat' ((conv=>whnf);first|(with_reducible refine hop.ff ?_)|refine zG ?_|apply zA|intro h|exact zT));all_goals conv=>whnf
 refine Jn.at ⟨0,[],[(0,.v (.int .i64 ((4-k:Nat):Int))),(1,iN a),(2,iN b),(3,.fn (.func fn) [] []),(4,.v (.int .i64 most))]⟩ ?_ ?_
 ·(repeat' ((conv=>whnf);first|(with_reducible refine hop.ff ?_)|refine zG ?_|apply zA|intro h|exact zT));all_goals conv=>whnf
  ·refine⟨(),trivial,?_⟩;exact leA
  ·refine⟨_,hU hZ Weak.bool,?_⟩;rw[hdead (by simp only[aA]at*;omega) h]at hK;rw[aI,aH (aK _),decide_eq_true (aK _)]at hK;exact hK
  ·refine⟨(),trivial,?_⟩;exact leA
 (repeat' ((conv=>whnf);first|(with_reducible refine aLZ a b (4-k) hf4 zo zo fun st' hs hm=>?_)|refine zG ?_|apply zA|intro h|exact zT));all_goals conv=>whnf
 obtain⟨st,rfl,hcuts⟩:=aFx (fun x hx=>hx.elim (fun h=>hoa x h _ hf4) fun h=>hob x h _ hf4) hs hm;have hR:∀u v,(∀r,r∈lO (4-k) a b->((r.lo<=u/\u<=r.hi)↔(r.lo<=v/\v<=r.hi)))->iY op k a b u=iY op k a b v:=fun u v h=>uY h;rw[aAE op k a b hcuts,pB]at hK;have hstl:(0:Int)+st.length<=iX (4-k)+1:=Kj st 0 zo hcuts.sorted hcuts.range;refine gV Nat (fun i=>⟨1,[(0,.arr 3 ((pL (iY op k a b) (iX (4-k)) st i).map aBq))],[(0,.v (.int .i64 ((4-k:Nat):Int))),(1,iN a),(2,iN b),(3,.fn (.func fn) [] []),(4,.v (.int .i64 most)),(12,.os 0 3 0 (pL (iY op k a b) (iX (4-k)) st i).length),(13,.v (.int .i64 (kG (pL (iY op k a b) (iX (4-k)) st i)))),(14,.lst ((st++[iX (4-k)+1]).map encZ)),(15,.v (.int .i64 i))]⟩)
  (fun i=>i<=st.length/\kG (pL (iY op k a b) (iX (4-k)) st i)<=most) (fun i=>st.length-i) 0 ⟨aK _,aK _⟩ ?_ ?_
 ·exact leA
 intro i ⟨hi,hsz⟩;rcases aD i st.length with hil|hil
 ·obtain⟨x,hx⟩:=gex hil;have hto:=G6 hcuts hx;have hgi:=Fm hcuts hR i x hx;have hsucc:=xP (R:=iY op k a b) (top:=iX (4-k)) hx;have hle1:=xO (R:=iY op k a b) (top:=iX (4-k)) (st:=st) (i+1);have hrs:=Mw (R:=iY op k a b) (top:=iX (4-k)) hx;have hx':(st++[iX (4-k)+1])[i]? =some x:=by rw[bJ hil];exact hx
  have hy':=U4 (top:=iX (4-k)) hil;have hpl:i+1<(st++[iX (4-k)+1]).length:=by simp;omega
  have hpl0:i<(st++[iX (4-k)+1]).length:=by omega
  have hgl:=aCd hgi.full;obtain⟨rest,hdr⟩:∃rest,iY op k a b x=rest:=⟨_,rfl⟩
  obtain⟨to,hdto⟩:∃to,pW (iX (4-k)) st i=to:=⟨_,rfl⟩
  rw[hdr,hdto]at hsucc;rw[hdr]at hrs;rw[hdto]at hto hy';have hcall:∀{K:KT},K (.tup [iN (if rest.length<=most then rest else []),.sb (decide (rest.length<=most))]) []->AC 269 [.v (.int .i64 (((4-k:Nat):Int)+1)),iN (atF (4-k) x a),iN (atF (4-k) x b),.fn (.func fn) [] [],.v (.int .i64 most)] [] K:=fun h=>by
   have l1:=xJ (4-k) x a;have l2:=xJ (4-k) x b;refine hIH (atF (4-k) x a) (atF (4-k) x b) (aEi hoa) (aEi hob) zo zo ?_;rw[show jH op k (atF (4-k) x a) (atF (4-k) x b)=rest from hdr];exact h
  have hto1:to+1-1=to:=by omega
  by_cases hle:rest.length<=most
  case neg=>
   have hc2:∀{K:KT},K (.tup [iN [],.sb false]) []->AC 269 [.v (.int .i64 (((4-k:Nat):Int)+1)),iN (atF (4-k) x a),iN (atF (4-k) x b),.fn (.func fn) [] [],.v (.int .i64 most)] [] K:=fun h=>hcall (by rw[aF hle,decide_eq_false hle];exact h);clear hcall hIH;rw[aF zo,decide_eq_false zo]at hK;(repeat' ((conv=>whnf);first|(with_reducible first|refine iI hpl0 ?_|refine iB (i+1) zo (by rw[aA];exact hpl) ?_|refine iH hx' ?_|refine iH hy' ?_|refine xG hto1 zo zo ?_|refine Lu a (4-k) hf4 x zo ?_|refine Lu b (4-k) hf4 x zo ?_|refine hc2 ?_)|refine zG ?_|apply zA|intro h|exact zT));all_goals conv=>whnf
   exact⟨_,hU hZ Weak.bool,hK⟩
  have hc2:∀{K:KT},K (.tup [iN rest,.sb true]) []->AC 269 [.v (.int .i64 (((4-k:Nat):Int)+1)),iN (atF (4-k) x a),iN (atF (4-k) x b),.fn (.func fn) [] [],.v (.int .i64 most)] [] K:=fun h=>hcall (by rw[aH hle,decide_eq_true hle];exact h);clear hcall hIH;have hsz1:=xO (R:=iY op k a b) (top:=iX (4-k)) (st:=st) (i+1);obtain⟨gs',hgs'⟩:∃gs',pL (iY op k a b) (iX (4-k)) st (i+1)=gs':=⟨_,rfl⟩
  rw[hgs']at hsz1 hsucc hle1;have next:kG gs'<=most->∃g':Nat,(g'<=st.length/\kG (pL (iY op k a b) (iX (4-k)) st g')<=most)/\g'=i+1/\pL (iY op k a b) (iX (4-k)) st g'=gs':=fun h=>⟨i+1,⟨hil,by rw[hgs'];exact h⟩,rfl,hgs'⟩
  generalize pL (iY op k a b) (iX (4-k)) st i=gs at*;have hsum:(kG gs:Int)+((rest.map iV).length:Int)=((kG gs+rest.length:Nat):Int):=by rw[aA];omega
  have hover:most<kG gs'->∃y,Weak (.tup [.nils,.v (.bool false)]) y/\K y []:=fun h=>by
   rw[aF zo,decide_eq_false zo]at hK;exact⟨_,hU hZ Weak.bool,hK⟩
  rcases dI gs with hn|⟨ini,g,hc⟩
  ·subst hn;have hs2:rest≠[]->gs'=[⟨x,to,rest⟩]:=fun h=>by
    rw[hsucc];unfold grow;rw[aF (by simpa using h)];rfl
   (repeat' ((conv=>whnf);first|(with_reducible first|refine iI hpl0 ?_|refine iB (i+1) zo (by rw[aA];exact hpl) ?_|refine iH hx' ?_|refine iH hy' ?_|refine xG hto1 zo zo ?_|refine Lu a (4-k) hf4 x zo ?_|refine Lu b (4-k) hf4 x zo ?_|refine hc2 ?_|refine jO hsum zo zo ?_)|refine zG ?_|apply zA|intro h|exact zT));all_goals conv=>whnf
   ·have e0:rest=[]:=cT.1 (by simp only[aA]at h;omega);rw[e0,Ji]at hsucc;refine⟨i+1,⟨hil,by rw[hgs',hsucc];exact hsz⟩,by omega,?_⟩;rw[hgs',hsucc];exact leA
   ·rename_i h0;have e1:=hs2 fun e=>h0 (by rw[e];rfl);refine hover ?_;rw[e1];simp only[kG,aR,bI,cX,List.sum_nil]at*;omega
   ·rename_i h0;have e1:=hs2 fun e=>h0 (by rw[e];rfl);have e2:kG gs'=kG []+rest.length:=by rw[e1];simp[kG]
    refine⟨i+1,⟨hil,by rw[hgs'];omega⟩,by omega,?_⟩;rw[hgs',e2,e1];exact leA
  ·rw[dJ]at hc;subst hc;have hgl2:=hgi.low g zx;have hgle:=hgi.wf.le g zx;have hil2:ini.length<(ini++[g]).length:=by simp
   have hel:(ini++[g])[0+ini.length]? =some g:=by simp
   have hlen:(ini++[g]).length=ini.length+1:=by simp
   have hsz2:=mF ini g;have hs2:rest≠[]->gs'=if g.hi+1=x/\g.val=rest then ini++[⟨g.lo,to,g.val⟩]else(ini++[g])++[⟨x,to,rest⟩]:=fun h=>by
    rw[hsucc];unfold grow;rw[aF (by simpa using h)];simp only[cW,cO,dT,dM,uP]
   (repeat' ((conv=>whnf);first|(with_reducible first|refine iI hpl0 ?_|refine iB (i+1) zo (by rw[aA];exact hpl) ?_|refine iH hx' ?_|refine iH hy' ?_|refine xG hto1 zo zo ?_|refine Lu a (4-k) hf4 x zo ?_|refine Lu b (4-k) hf4 x zo ?_|refine hc2 ?_|refine iB ini.length (by rw[hlen];omega) zo ?_|refine iH hel ?_|refine aKC g.val rest zo zo ?_|refine jO hsum zo zo ?_)|refine zG ?_|apply zA|intro h|exact zT));all_goals conv=>whnf
   all_goals have hne:¬(((rest.map iV).length:Nat):Int)=0->rest≠[]:=fun h e=>h (by rw[e];rfl)
   ·have e0:rest=[]:=cT.1 (by simp only[aA]at h;omega);rw[e0,Ji]at hsucc;refine⟨i+1,⟨hil,by rw[hgs',hsucc];exact hsz⟩,by omega,?_⟩;rw[hgs',hsucc];exact leA
   ·rename_i h0 h1;have e1:=hs2 (hne h0);rw[aH ⟨h1,h⟩]at e1;have e2:kG gs'=kG (ini++[g]):=by rw[e1,mF,mF]
    have e3:(ini++[Grp.mk g.lo to g.val]).length=(ini++[g]).length:=by rw[hlen];simp
    have e4:(ini++[Grp.mk g.lo to g.val]).map aBq=((ini++[g]).map aBq).set (0+ini.length) (.agg [.v (.int .u32 g.lo),.v (.int .u32 to),iN g.val]):=by
     rw[bM,aQ,aQ,dO _ _ zx];simp
    refine⟨i+1,⟨hil,by rw[hgs',e2];exact hsz⟩,by omega,?_⟩;rw[hgs',e2,e1,e3,e4];exact leA
   ·rename_i h0 h1 h2;have e1:=hs2 (hne h0);rw[aF fun e=>h2 e.2]at e1;exact hover (by rw[e1,mF];simp only;omega)
   ·rename_i h0 h1 h2;have e1:=hs2 (hne h0);rw[aF fun e=>h2 e.2]at e1;have e2:kG gs'=kG (ini++[g])+rest.length:=by rw[e1,mF]
    refine⟨i+1,⟨hil,by rw[hgs'];omega⟩,by omega,?_⟩;rw[hgs',e2,e1,aC,aQ (l₁:=ini++[g])];exact leA
   ·rename_i h0 h1;have e1:=hs2 (hne h0);rw[aF fun e=>h1 e.1]at e1;exact hover (by rw[e1,mF];simp only;omega)
   ·rename_i h0 h1;have e1:=hs2 (hne h0);rw[aF fun e=>h1 e.1]at e1;have e2:kG gs'=kG (ini++[g])+rest.length:=by rw[e1,mF]
    refine⟨i+1,⟨hil,by rw[hgs'];omega⟩,by omega,?_⟩;rw[hgs',e2,e1,aC,aQ (l₁:=ini++[g])];exact leA
 ·have hii:i=st.length:=by omega
  have hgf:=(Q8 (R:=iY op k a b) (top:=iX (4-k)) (aO st.length))
  have hinv:=mU op k a b hcuts;have hpn:¬((st.length:Int)+1<(((st++[iX (4-k)+1]).map encZ).length:Nat)):=by simp
  rw[hii,hgf]at hsz⊢;clear hIH hR hcuts hdead hm hs hgf;generalize lD (iY op k a b) (iX (4-k)) st=gs at*;rw[aH hsz,decide_eq_true hsz]at hK;have hgl:=aCd hinv.full;(repeat' ((conv=>whnf);first|(with_reducible first|refine kH zd ?_|refine iB (kG gs) rfl zo ?_|refine Ob.intro ⟨aK _,bC (dV _ (bC hsz (Nat.le_of_lt hm2))) (cB zk)⟩ ?_)|refine zG ?_|apply zA|intro h|exact zT));all_goals conv=>whnf
  refine gV (Nat×List AV) (fun g=>⟨2,[(1,.arr 10 ((iZ (4-k) (gs.take g.1)).map iV++g.2)),(0,.arr 3 (gs.map aBq))],[(0,.v (.int .i64 ((4-k:Nat):Int))),(20,.os 1 10 0 (iZ (4-k) (gs.take g.1)).length),(146,.os 0 3 0 gs.length),(147,.v (.int .i64 gs.length)),(148,.v (.int .i64 g.1))]⟩)
   (fun g=>g.1<=gs.length) (fun g=>gs.length-g.1) (0,List.replicate (kG gs) (iV zB)) (aK _) ?_ ?_
  ·exact leA
  rintro⟨j,zs⟩ hj
  simp only at hj⊢;rcases aD j gs.length with hjl|hjl
  ·obtain⟨g,hg⟩:=gex hjl;have hg0:gs[0+j]? =some g:=by rw[bM];exact hg
   (repeat' ((conv=>whnf);first|(with_reducible first|refine iJ hjl ?_|refine iH hg0 ?_)|refine zG ?_|apply zA|intro h|exact zT));all_goals conv=>whnf
   have hghi:=hinv.low g (aG hg);have hgle:=hinv.wf.le g (aG hg);have m1:(mkR g.lo g.hi).lo=g.lo:=kI zo zo zo zo;have m2:(mkR g.lo g.hi).hi=g.hi:=kP zo zo zo zo;have hsu:iZ (4-k) (gs.take (j+1))=iZ (4-k) (gs.take j)++g.val.map fun b=>b.put (4-k) (mkR g.lo g.hi):=by
    rw[bE,hg];exact uR
   have hfl1:(iZ (4-k) (gs.take j)).length+g.val.length<=kG gs:=by
    have h1:=pB (4-k) (gs.take (j+1));have h2:kG (gs.take (j+1))<=kG gs:=by
     have:kG gs=kG (gs.take (j+1))+kG (gs.drop (j+1)):=by
      simp only[kG];rw[<-List.sum_append,<-aQ,cU]
     omega
    rw[hsu,aC,aA]at h1;omega
   obtain⟨F,hF⟩:∃F,iZ (4-k) (gs.take j)=F:=⟨_,rfl⟩
   rw[hF]at hsu hfl1⊢;refine gV (Nat×List AV) (fun q=>⟨3,[(2,.box [.v (.int .u32 g.lo),.v (.int .u32 g.hi),iN g.val]),(1,.arr 10 ((F++(g.val.take q.1).map fun b=>b.put (4-k) (mkR g.lo g.hi)).map iV++q.2)),(0,.arr 3 (gs.map aBq))],[(0,.v (.int .i64 ((4-k:Nat):Int))),(20,.os 1 10 0 (F.length+q.1)),(22,.op 2 0),(146,.os 0 3 0 gs.length),(147,.v (.int .i64 gs.length)),(148,.v (.int .i64 j)),(153,iN g.val),(154,.v (.int .i64 ((g.val.map iV).length:Nat))),(155,.v (.int .i64 q.1))]⟩)
    (fun q=>q.1<=g.val.length) (fun q=>g.val.length-q.1) (0,zs) (aK _) ?_ ?_
   ·rw[cA,bI,bG];exact leA
   rintro⟨m,ys⟩ hm
   simp only at hm⊢;rcases aD m g.val.length with hml|hml
   ·obtain⟨z,hz⟩:=gex hml;have hnext:(F++(g.val.take (m+1)).map fun b=>b.put (4-k) (mkR g.lo g.hi)).map iV=(F++(g.val.take m).map fun b=>b.put (4-k) (mkR g.lo g.hi)).map iV++[iV (z.put (4-k) (mkR g.lo g.hi))]:=by
     simp only[bE,hz,eH,aQ,aR,bI,cM]
    have hAl:((F++(g.val.take m).map fun b=>b.put (4-k) (mkR g.lo g.hi)).map iV).length=F.length+m:=by
     rw[aA,aC,aA,aV];omega
    generalize hA:(F++(g.val.take m).map fun b=>b.put (4-k) (mkR g.lo g.hi)).map iV=A at*;generalize hB:(F++(g.val.take (m+1)).map fun b=>b.put (4-k) (mkR g.lo g.hi)).map iV=B at*;obtain⟨V,hV⟩:∃V,V=iV (z.put (4-k) (mkR g.lo g.hi)):=⟨_,rfl⟩
    rw[<-hV]at hnext;obtain rfl|rfl|rfl|rfl|rfl:k=0\/k=1\/k=2\/k=3\/k=4:=by omega
    all_goals
     simp only[Nat.reduceSub,aEu,aEv,aEw,aEx,aEy,iV,m1,m2]at hV;rw[hV]at hnext;(repeat' ((conv=>whnf);first|(with_reducible first|refine iI hml ?_|refine iJ hml ?_|refine iH hz ?_)|(refine kH zd ?_)|(with_reducible refine aEM hAl ?_)|refine zG ?_|apply zA|intro h|exact zT));all_goals conv=>whnf
     refine⟨(m+1,[]),by simp only;omega,by simp only;omega,?_⟩;simp only;rw[hB,hnext,bG];exact leA
   ·(repeat' ((conv=>whnf);first|refine zG ?_|apply zA|intro h|exact zT));all_goals conv=>whnf
    have hmm:m=g.val.length:=by omega
    rw[hmm,dF,<-hsu];have e2:F.length+g.val.length=(iZ (4-k) (gs.take (j+1))).length:=by rw[hsu,aC,aA]
    refine⟨(j+1,ys),hjl,by simp only;omega,?_⟩;simp only;rw[e2];exact leA
  ·rw[aW hjl];(repeat' ((conv=>whnf);first|(with_reducible refine aEM (by rw[aA]) ?_)|refine zG ?_|apply zA|intro h|exact zT));all_goals conv=>whnf
   exact⟨_,hU gY Weak.bool,hK⟩
theorem aKA(fn:FuncId)(op:Bool->Bool->Bool)(hop:Opf fn op)(most:Nat)(hm1:1<=most)(hm2:most<1000000000):∀(k:Nat),k<=5->∀(a b:List Bx) {K:KT},okL a->okL b->a.length<1000000000->b.length<1000000000->
  K (.tup [iN (if(jH op k a b).length<=most then jH op k a b else []),.sb (decide ((jH op k a b).length<=most))]) []->
  AC 269 [.v (.int .i64 ((5-k:Nat):Int)),iN a,iN b,.fn (.func fn) [] [],.v (.int .i64 most)] [] K
 |0,_,a,b,K,hoa,hob,ha,hb,hK=>by
  rw[jH]at hK;refine hJ (aEc rfl rfl ?_);(repeat' ((conv=>whnf);first|(with_reducible refine hop.ap _ _ ?_)|refine zG ?_|apply zA|intro h|exact zT));all_goals conv=>whnf
  ·rw[qM,qM]at h;rw[h,aH rfl,aH (by exact hm1),decide_eq_true (by exact hm1)]at hK;exact⟨_,hU gY Weak.bool,hK⟩
  ·rw[qM,qM]at h;simp only[h,cK,if_false,aI,aK,if_true,decide_true,ite_self]at hK;exact⟨_,hU hZ Weak.bool,hK⟩
 |k+1,hk,a,b,K,hoa,hob,ha,hb,hK=>by
  rw[show 5-(k+1)=4-k by omega];refine aAD fn op hop most hm1 hm2 k zo (fun a b K h1 h2 h3 h4 h5=>?_) a b hoa hob ha hb hK;rw[show((4-k:Nat):Int)+1=((5-k:Nat):Int) by omega];exact aKA fn op hop most hm1 hm2 k zo a b h1 h2 h3 h4 h5
def five(c0 c1 c2 c3 c4:Int):Nat->Int
 |0=>c0
 |1=>c1
 |2=>c2
 |3=>c3
 |_=>c4
theorem yY{xs:List AV}{i:Nat}{x:AV}{K:AV->Prop}(h:i<xs.length)(hk:K x):Ix (xs.set i x) i K:=
 iC (by rw[List.getElem?_set_self h]) hk
theorem aFB(l:List Bx)(f:Nat)(hf:f<=4)(hl:l.length<1000000000){K:KT}(hK:K (iN (l.map (jG (4-f)))) []):AC 298 [.v (.int .i64 f),iN l] [] K:=by
 refine hJ (aEg rfl rfl ?_);(repeat' ((conv=>whnf);first|refine zG ?_|apply zA|intro h|exact zT));all_goals conv=>whnf
 refine V4 l hl (fun e=>?_) ?_
 ·subst e;(repeat' ((conv=>whnf);first|refine zG ?_|apply zA|intro h|exact zT));all_goals conv=>whnf
  refine Lp.times 1 ?_;(repeat' ((conv=>whnf);first|refine zG ?_|apply zA|intro h|exact zT));all_goals conv=>whnf
  exact⟨_,hZ,hK⟩
 ·(repeat' ((conv=>whnf);first|refine zG ?_|apply zA|intro h|exact zT));all_goals conv=>whnf
  refine gV Nat (fun i=>⟨1,[(0,.arr 10 (((l.take i).map (jG (4-f))++l.drop i).map iV))],[(0,.v (.int .i64 f)),(5,.os 0 10 0 l.length),(11,.v (.int .i64 l.length)),(12,.v (.int .i64 i))]⟩) (fun i=>i<=l.length) (fun i=>l.length-i) 0 (aK _) ?_ ?_
  ·rw[cA,bP];exact leA
  intro i hi;rcases aD i l.length with hil|hil
  ·obtain⟨x,hx⟩:=gex hil;have hd:l.drop i=x::l.drop (i+1):=by
    rw[aE hil]at hx;rw[<-bB hx,<-bA hil]
   have htl:((l.take i).map (jG (4-f))).length=i:=by rw[aA,aV];omega
   have hget:((l.take i).map (jG (4-f))++l.drop i)[0+i]? =some x:=by
    rw[bM,bF zo,htl,dH,hd];rfl
   have hset:∀y:Bx,(((l.take i).map (jG (4-f))++l.drop i).map iV).set (0+i) (iV y)=((l.take i).map (jG (4-f))++y::l.drop (i+1)).map iV:=fun y=>by
    rw[bM,<-fS,dO _ _ zo,htl,dH,hd];rfl
   have hnext:(l.take (i+1)).map (jG (4-f))++l.drop (i+1)=(l.take i).map (jG (4-f))++jG (4-f) x::l.drop (i+1):=by
    rw[bE,hx,aQ,cM];rfl
   have hlen:0+i<(((l.take i).map (jG (4-f))++l.drop i).map iV).length:=by
    rw[aA,aC,htl,cH];omega
   generalize hA:(l.take i).map (jG (4-f))++l.drop i=A at*;rcases f with _|_|_|_|_|f
   case succ.succ.succ.succ.succ=>omega
   all_goals
    (repeat' ((conv=>whnf);first|(with_reducible first|refine Lp.times 7 ?_|refine iJ hil ?_|refine iH hget ?_|refine yY (by simpa only[cL]using hlen) ?_)|(refine kH zd ?_)|refine zG ?_|apply zA|intro h|exact zT));all_goals conv=>whnf
    refine⟨i+1,hil,by omega,?_⟩;try simp only[List.set_set]
    rw[hnext,<-hset,aN,aM];exact leA
  ·rw[aW hil,bO hil,bG];(repeat' ((conv=>whnf);first|(with_reducible refine iT (by rw[aA,aA]) ?_)|refine zG ?_|apply zA|intro h|exact zT));all_goals conv=>whnf
   exact⟨_,gY,hK⟩
theorem aWD{l:List Bx}:nZ l=(if l.length<=4096 then l else []):=by
 unfold nZ;split<;>split<;>first|rfl|omega
theorem Tf(fn:FuncId)(op:Bool->Bool->Bool)(hop:Opf fn op)(a b:List Bx)(hoa:okL a)(hob:okL b)(ha:a.length<1000000000)(hb:b.length<1000000000){K:KT}(hK:K (.tup [iN (nZ (jH op 5 a b)),.v (.int .i64 (pM (jH op 5 a b)))]) []):
  AC 217 [iN a,iN b,.fn (.func fn) [] []] [] K:=by
 have hcan:∀{K:KT},K (.tup [iN (if(jH op 5 a b).length<=4096 then jH op 5 a b else []),.sb (decide ((jH op 5 a b).length<=4096))]) []->AC 269 [.v (.int .i64 0),iN a,iN b,.fn (.func fn) [] [],.v (.int .i64 4096)] [] K:=
  fun h=>aKA fn op hop 4096 zd zd 5 (aO _) a b hoa hob ha hb h
 refine hJ (aJg rfl rfl ?_);unfold pM at hK;rw[aWD]at hK;(repeat' ((conv=>whnf);first|(with_reducible refine hcan ?_)|refine zG ?_|apply zA|intro h|exact zT));all_goals conv=>whnf
 ·rw[aF (c:=4096<_) zo]at hK;exact⟨_,gY,hK⟩
 ·rw[aF h,aH zo]at hK;exact⟨_,hU hZ gY,hK⟩
theorem aBm(k:Nat)(hk:k<=4)(hIH:∀(l:List Bx) {K:KT},l.length<1000000000->l≠[]->K (.sb (nL k l)) []->AC 268 [.v (.int .i64 (((4-k:Nat):Int)+1)),iN l] [] K)
  (l:List Bx)(hl:l.length<1000000000){K:KT}(hK:K (.sb (nL (k+1) l)) []):AC 268 [.v (.int .i64 ((4-k:Nat):Int)),iN l] [] K:=by
 have hf4:4-k<=4:=by omega
 have hP:=uZ (4-k) l;have hfl:=xZ (4-k) l;have hal:∀{a b:List Bx},alike (4-k+1) a b=decide (a.map (jG k)=b.map (jG k)):=fun {a b}=>by
  rw[show 4-k+1=5-k by omega,bK,aL];exact E4
 rw[nL]at hK;generalize sQ (4-k) l=ps at*;have hflen:ps.flatten.length=l.length:=by rw[hfl]
 refine gZ (aEe rfl rfl ?_);(repeat' ((conv=>whnf);first|refine zG ?_|apply zA|intro h|exact zT));all_goals conv=>whnf
 refine gV (Nat×Int×Int×AV) (fun r=>⟨1,[(0,.box [.v (.int .u32 r.2.1),.v (.int .u32 r.2.2.1),r.2.2.2])],[(0,.v (.int .i64 ((4-k:Nat):Int))),(1,iN (ps.drop r.1).flatten),(5,.op 0 0)]⟩)
  (fun r=>r.1<=ps.length/\rL (nL k) (4-k) [] ps=rL (nL k) (4-k) (jL ps r.1) (ps.drop r.1)/\((jL ps r.1=[]/\r.2.2.2=.nils)\/(jL ps r.1≠[]/\r.2=((kK (4-k) (jL ps r.1)).lo,(kK (4-k) (jL ps r.1)).hi,iN ((jL ps r.1).map (jG k)))/\(jL ps r.1).length<=l.length))) (fun r=>ps.length-r.1) (0,0,0,.nils) ⟨aK _,by rw[bP];rfl,.inl ⟨rfl,rfl⟩⟩ ?_ ?_
 ·rw[bP,hfl];exact leA
 rintro⟨r,lo,hi,y⟩ ⟨hr,hchk,hlast⟩
 simp only at hr hchk hlast⊢;have hsufl:(ps.drop r).flatten.length<=l.length:=by
  rw[<-hflen];have:ps.flatten=(ps.take r).flatten++(ps.drop r).flatten:=by rw[<-List.flatten_append,cU]
  rw[this,aC];omega
 rcases aD r ps.length with hrl|hrl
 ·obtain⟨p,hp⟩:=gex hrl;obtain⟨hp1,hp2⟩:=hP.mem p (aG hp);have hplen:0<p.length:=dC.2 hp1;have hdrop:ps.drop r=p::ps.drop (r+1):=by
   rw[aE hrl]at hp;rw[<-bB hp,<-bA hrl]
  obtain⟨more,hmore⟩:∃more,(ps.drop (r+1)).flatten=more:=⟨_,rfl⟩
  have hsuf:(ps.drop r).flatten=p++more:=by rw[hdrop,eR,hmore]
  rw[hsuf]at hsufl⊢;rw[aC]at hsufl;obtain⟨x0,hx0⟩:=gex hplen;have hlx0:(p++more)[0]? =some x0:=by rw[bJ hplen];exact hx0
  have hx0r:x0.get (4-k)=kK (4-k) p:=hp2 x0 (aG hx0);have hends:more=[]\/∃y,(p++more)[p.length]? =some y/\y.get (4-k)≠x0.get (4-k):=by
   rcases aD (r+1) ps.length with hn|hn
   ·obtain⟨q,hq⟩:∃q,ps[r+1]? =some q:=⟨_,aE hn⟩
    obtain⟨hq1,hq2⟩:=hP.mem q (aG hq);obtain⟨y,hy⟩:∃y,q[0]? =some y:=⟨_,aE (dC.2 hq1)⟩
    refine .inr ⟨y,?_,?_⟩
    ·have hd2:ps.drop (r+1)=q::ps.drop (r+2):=by
      rw[aE hn]at hq;rw[<-bB hq,<-bA hn]
     rw[<-hmore,hd2,eR,bF (aO _),dH,bJ (dC.2 hq1)];exact hy
    ·rw[hq2 y (aG hy),hx0r];exact(hP.next hp hq).symm
   ·left;rw[<-hmore,bO zo];rfl
  have hpl0:0<(p++more).length:=by rw[aC];omega
  have hstep:rL (nL k) (4-k) [] ps=(!wN (4-k) (jL ps r) p&&nL k p&&rL (nL k) (4-k) p (ps.drop (r+1))):=by rw[hchk,hdrop,rL]
  have hlast1:jL ps (r+1)=p:=by rw[jL,hp];rfl
  have hrests:∀{K:KT},K (iN (p.map (jG k))) []->AC 298 [.v (.int .i64 ((4-k:Nat):Int)),iN p] [] K:=fun h=>aFB p (4-k) hf4 zo (by rw[show 4-(4-k)=k by omega];exact h);have hsl:∀{K:List AV->Prop},K (p.map iV)->Sl ((p++more).map iV) 0 (p.length-0) K:=fun {K} h=>by
   refine mQ (by rw[aC];omega) ?_;rw[bP,eV,gP rfl];exact h
  have hx0l:=(x0.get (4-k)).l1;have hx0l0:=(x0.get (4-k)).l0;have hcan:∀{K:KT},K (.sb (nL k p)) []->AC 268 [.v (.int .i64 (((4-k:Nat):Int)+1)),iN p] [] K:=fun h=>hIH p zo hp1 h;have hsl2:∀{K:List AV->Prop},K (more.map iV)->Sl ((p++more).map iV) p.length ((p++more).length-p.length) K:=fun {K} h=>by
   refine mQ (by rw[aC];omega) ?_;rw[List.drop_left' rfl,aW (by rw[aC];omega)];exact h
  have hml:(more.map iV).length=more.length:=aA ..;have hjoin:∀(z:Bool),wN (4-k) (jL ps r) p=z->rL (nL k) (4-k) [] ps=(!z&&nL k p&&rL (nL k) (4-k) p (ps.drop (r+1))):=fun z h=>by rw[hstep,h]
  rcases hlast with⟨hl0,rfl⟩|⟨hl0,heq,hll⟩
  ·(repeat' ((conv=>whnf);first|refine zG ?_|apply zA|intro h|exact zT));all_goals conv=>whnf
   refine Jn.at ⟨1,[(0,.box [.v (.int .u32 lo),.v (.int .u32 hi),.nils])],[(0,.v (.int .i64 ((4-k:Nat):Int))),(1,iN (p++more)),(5,.op 0 0),(6,.v (.int .i64 p.length))]⟩ ?_ ?_
   ·(repeat' ((conv=>whnf);first|refine zG ?_|apply zA|intro h|exact zT));all_goals conv=>whnf
    refine gV Nat (fun j=>⟨1,[(0,.box [.v (.int .u32 lo),.v (.int .u32 hi),.nils])],[(0,.v (.int .i64 ((4-k:Nat):Int))),(1,iN (p++more)),(5,.op 0 0),(6,.v (.int .i64 j))]⟩) (fun j=>1<=j/\j<=p.length) (fun j=>p.length-j) 1 ⟨aO _,hplen⟩ ?_ ?_
    ·exact leA
    intro j ⟨hj0,hj⟩;clear hchk hK hIH hP hrests hsl hstep;rcases aD j p.length with hjl|hjl
    ·obtain⟨x,hx⟩:=gex hjl;have hlx:(p++more)[j]? =some x:=by rw[bJ hjl];exact hx
     have hxr:x.get (4-k)=x0.get (4-k):=by rw[hp2 x (aG hx),hx0r]
     have hjl2:j<(p++more).length:=by rw[aC];omega
     obtain rfl|rfl|rfl|rfl|rfl:k=0\/k=1\/k=2\/k=3\/k=4:=by omega
     all_goals
      (repeat' ((conv=>whnf);first|(with_reducible first|refine iI hjl2 ?_|refine iB 0 rfl (by rw[aA];exact hpl0) ?_|refine iH hlx ?_|refine iH hlx0 ?_)|(refine kH zd ?_)|(with_reducible refine yI ?_)|refine zG ?_|apply zA|intro h|exact zT));all_goals conv=>whnf
      all_goals first
       |(exfalso;exact h hxr)
       |(refine⟨j+1,by omega,by omega,?_⟩
         rw[aN,aM];(exact leA))
    ·have hjp:j=p.length:=by omega
     subst hjp;rcases hends with hend|⟨w,hlw,hne⟩
     ·subst hend;rw[bG]at*;(repeat' ((conv=>whnf);first|refine zG ?_|apply zA|intro h|exact zT));all_goals conv=>whnf
      refine⟨(),trivial,?_⟩;exact leA
     ·have hlwl:p.length<(p++more).length:=(aP.1 hlw).1;obtain rfl|rfl|rfl|rfl|rfl:k=0\/k=1\/k=2\/k=3\/k=4:=by omega
      all_goals
       (repeat' ((conv=>whnf);first|(with_reducible first|refine iI hlwl ?_|refine iB 0 rfl (by rw[aA];exact hpl0) ?_|refine iH hlw ?_|refine iH hlx0 ?_)|(refine kH zd ?_)|(with_reducible refine yI ?_)|refine zG ?_|apply zA|intro h|exact zT));all_goals conv=>whnf
       all_goals first
        |(exfalso;exact hne h)
        |(refine⟨(),trivial,?_⟩
          (exact leA))
   refine Jn.at ⟨2,[(1,.box [.v (.int .u32 (x0.get (4-k)).lo),.v (.int .u32 (x0.get (4-k)).hi),iN (p.map (jG k))]),(0,.box [.v (.int .u32 lo),.v (.int .u32 hi),.nils])],[(0,.v (.int .i64 ((4-k:Nat):Int))),(1,iN (p++more)),(5,.op 0 0),(6,.v (.int .i64 p.length)),(7,.op 1 0)]⟩ ?_ ?_
   ·clear hchk hK hIH hP hstep;obtain rfl|rfl|rfl|rfl|rfl:k=0\/k=1\/k=2\/k=3\/k=4:=by omega
    all_goals
     (repeat' ((conv=>whnf);first|(with_reducible first|refine iB 0 rfl (by rw[aA];exact hpl0) ?_|refine iH hlx0 ?_)|(refine kH zd ?_)|(with_reducible first|refine iF 0 p.length rfl rfl zo (by rw[aA,aC];omega) ?_|refine hsl ?_|refine hrests ?_)|refine zG ?_|apply zA|intro h|exact zT));all_goals conv=>whnf
     all_goals
      refine⟨(),trivial,?_⟩;exact leA
   have hj:=hjoin false (by rw[hl0];rfl);have hx0s:=hx0r.symm;clear hx0r hp2;(repeat' ((conv=>whnf);first|(with_reducible first|refine hsl ?_|refine hcan ?_|refine hsl2 ?_|refine iF 0 p.length rfl rfl zo (by rw[aA,aC];omega) ?_|refine iF p.length (p++more).length rfl (by rw[aA]) (by rw[aC];omega) (by rw[aA];exact aO _) ?_)|refine zG ?_|apply zA|intro h|exact zT));all_goals conv=>whnf
   all_goals first
    |exact iU hK (by rw[hj];simp[*])
    |(refine⟨(r+1,(x0.get (4-k)).lo,(x0.get (4-k)).hi,iN (p.map (jG k))),⟨hrl,?_,.inr ⟨?_,?_,?_⟩⟩,?_,?_⟩
      ·simp only;rw[hlast1,hj];simp[*]<;>(intros;omega)
      ·simp only;rw[hlast1];exact hp1
      ·simp only;rw[hlast1,hx0s]
      ·simp only;rw[hlast1];omega
      ·simp only;omega
      ·simp only;rw[hmore];(exact leA))
  ·simp only[Prod.mk.injEq]at heq;obtain⟨rfl,rfl,rfl⟩:=heq;(repeat' ((conv=>whnf);first|refine zG ?_|apply zA|intro h|exact zT));all_goals conv=>whnf
   refine Jn.at ⟨1,[(0,.box [.v (.int .u32 (kK (4-k) (jL ps r)).lo),.v (.int .u32 (kK (4-k) (jL ps r)).hi),iN ((jL ps r).map (jG k))])],[(0,.v (.int .i64 ((4-k:Nat):Int))),(1,iN (p++more)),(5,.op 0 0),(6,.v (.int .i64 p.length))]⟩ ?_ ?_
   ·(repeat' ((conv=>whnf);first|refine zG ?_|apply zA|intro h|exact zT));all_goals conv=>whnf
    refine gV Nat (fun j=>⟨1,[(0,.box [.v (.int .u32 (kK (4-k) (jL ps r)).lo),.v (.int .u32 (kK (4-k) (jL ps r)).hi),iN ((jL ps r).map (jG k))])],[(0,.v (.int .i64 ((4-k:Nat):Int))),(1,iN (p++more)),(5,.op 0 0),(6,.v (.int .i64 j))]⟩) (fun j=>1<=j/\j<=p.length) (fun j=>p.length-j) 1 ⟨aO _,hplen⟩ ?_ ?_
    ·exact leA
    intro j ⟨hj0,hj⟩;clear hchk hK hIH hP hrests hsl hstep;rcases aD j p.length with hjl|hjl
    ·obtain⟨x,hx⟩:=gex hjl;have hlx:(p++more)[j]? =some x:=by rw[bJ hjl];exact hx
     have hxr:x.get (4-k)=x0.get (4-k):=by rw[hp2 x (aG hx),hx0r]
     have hjl2:j<(p++more).length:=by rw[aC];omega
     obtain rfl|rfl|rfl|rfl|rfl:k=0\/k=1\/k=2\/k=3\/k=4:=by omega
     all_goals
      (repeat' ((conv=>whnf);first|(with_reducible first|refine iI hjl2 ?_|refine iB 0 rfl (by rw[aA];exact hpl0) ?_|refine iH hlx ?_|refine iH hlx0 ?_)|(refine kH zd ?_)|(with_reducible refine yI ?_)|refine zG ?_|apply zA|intro h|exact zT));all_goals conv=>whnf
      all_goals first
       |(exfalso;exact h hxr)
       |(refine⟨j+1,by omega,by omega,?_⟩
         rw[aN,aM];(exact leA))
    ·have hjp:j=p.length:=by omega
     subst hjp;rcases hends with hend|⟨w,hlw,hne⟩
     ·subst hend;rw[bG]at*;(repeat' ((conv=>whnf);first|refine zG ?_|apply zA|intro h|exact zT));all_goals conv=>whnf
      refine⟨(),trivial,?_⟩;exact leA
     ·have hlwl:p.length<(p++more).length:=(aP.1 hlw).1;obtain rfl|rfl|rfl|rfl|rfl:k=0\/k=1\/k=2\/k=3\/k=4:=by omega
      all_goals
       (repeat' ((conv=>whnf);first|(with_reducible first|refine iI hlwl ?_|refine iB 0 rfl (by rw[aA];exact hpl0) ?_|refine iH hlw ?_|refine iH hlx0 ?_)|(refine kH zd ?_)|(with_reducible refine yI ?_)|refine zG ?_|apply zA|intro h|exact zT));all_goals conv=>whnf
       all_goals first
        |(exfalso;exact hne h)
        |(refine⟨(),trivial,?_⟩
          (exact leA))
   refine Jn.at ⟨2,[(1,.box [.v (.int .u32 (x0.get (4-k)).lo),.v (.int .u32 (x0.get (4-k)).hi),iN (p.map (jG k))]),(0,.box [.v (.int .u32 (kK (4-k) (jL ps r)).lo),.v (.int .u32 (kK (4-k) (jL ps r)).hi),iN ((jL ps r).map (jG k))])],[(0,.v (.int .i64 ((4-k:Nat):Int))),(1,iN (p++more)),(5,.op 0 0),(6,.v (.int .i64 p.length)),(7,.op 1 0)]⟩ ?_ ?_
   ·clear hchk hK hIH hP hstep;obtain rfl|rfl|rfl|rfl|rfl:k=0\/k=1\/k=2\/k=3\/k=4:=by omega
    all_goals
     (repeat' ((conv=>whnf);first|(with_reducible first|refine iB 0 rfl (by rw[aA];exact hpl0) ?_|refine iH hlx0 ?_)|(refine kH zd ?_)|(with_reducible first|refine iF 0 p.length rfl rfl zo (by rw[aA,aC];omega) ?_|refine hsl ?_|refine hrests ?_)|refine zG ?_|apply zA|intro h|exact zT));all_goals conv=>whnf
     all_goals
      refine⟨(),trivial,?_⟩;exact leA
   have h1:=(kK (4-k) (jL ps r)).h1;have h0:=(kK (4-k) (jL ps r)).h0;have hlen:0<(((jL ps r).map (jG k)).map iV).length:=by rw[aA,aA];exact dC.2 hl0
   have hjb:wN (4-k) (jL ps r) p=(decide ((x0.get (4-k)).lo<=(kK (4-k) (jL ps r)).hi)||(decide ((x0.get (4-k)).lo=(kK (4-k) (jL ps r)).hi+1)&&decide (p.map (jG k)=(jL ps r).map (jG k)))):=by
    rw[wN,hal,hx0r];have:(jL ps r).isEmpty=false:=by cases hq:jL ps r with
     |nil=>exact absurd hq hl0
     |cons=>rfl
    rw[this,decide_eq_decide.2 (eq_comm (a:=(jL ps r).map (jG k)))];rfl
   have hj:=hjoin _ hjb;have hx0s:=hx0r.symm;clear hjoin hjb hstep hx0r hp2;(repeat' ((conv=>whnf);first|(with_reducible first|refine hsl ?_|refine hcan ?_|refine hsl2 ?_|refine iF 0 p.length rfl rfl zo (by rw[aA,aC];omega) ?_|refine iF p.length (p++more).length rfl (by rw[aA]) (by rw[aC];omega) (by rw[aA];exact aO _) ?_|refine aKC _ _ (by rw[aA];omega) (by rw[aA];omega) ?_)|refine zG ?_|apply zA|intro h|exact zT));all_goals conv=>whnf
   all_goals first
    |exact iU hK (by rw[hj];simp[*])
    |(refine⟨(r+1,(x0.get (4-k)).lo,(x0.get (4-k)).hi,iN (p.map (jG k))),⟨hrl,?_,.inr ⟨?_,?_,?_⟩⟩,?_,?_⟩
      ·simp only;rw[hlast1,hj];simp[*]<;>(intros;omega)
      ·simp only;rw[hlast1];exact hp1
      ·simp only;rw[hlast1,hx0s]
      ·simp only;rw[hlast1];omega
      ·simp only;omega
      ·simp only;rw[hmore];(exact leA))
 ·have e:ps.drop r=[]:=bO hrl;rw[e,rL]at hchk;rw[e,List.flatten_nil];rcases hlast with⟨hl0,rfl⟩|⟨hl0,heq,hll⟩
  ·(repeat' ((conv=>whnf);first|refine zG ?_|apply zA|intro h|exact zT));all_goals conv=>whnf
   exact kE hK hchk
  ·simp only[Prod.mk.injEq]at heq;obtain⟨rfl,rfl,rfl⟩:=heq;(repeat' ((conv=>whnf);first|refine zG ?_|apply zA|intro h|exact zT));all_goals conv=>whnf
   exact kE hK hchk
theorem aKB:∀(k:Nat),k<=5->∀(l:List Bx) {K:KT},l.length<1000000000->(k=0->l≠[])->K (.sb (nL k l)) []->AC 268 [.v (.int .i64 ((5-k:Nat):Int)),iN l] [] K
 |0,_,l,K,hl,hne,hK=>by
  refine gZ (aEe rfl rfl ?_);(repeat' ((conv=>whnf);first|refine zG ?_|apply zA|intro h|exact zT));all_goals conv=>whnf
  refine kB hK ?_;have:=dC.2 (hne rfl);rw[nL,aA,bK,beq_iff_eq,aL];omega
 |k+1,hk,l,K,hl,hne,hK=>by
  rw[show 5-(k+1)=4-k by omega];refine aBm k zo (fun l K h1 h2 h3=>?_) l hl hK;rw[show((4-k:Nat):Int)+1=((5-k:Nat):Int) by omega];exact aKB k zo l h1 (fun _=>h2) h3
theorem Th(l:List Bx)(hl:l.length<1000000000){K:KT}(hK:K (.sb (jW l)) []):AC 212 [iN l] [] K:=by
 have hc:∀{K:KT},K (.sb (nL 5 l)) []->AC 268 [.v (.int .i64 0),iN l] [] K:=fun h=>aKB 5 (aO _) l hl zo h;refine gZ (aJn rfl rfl ?_);unfold jW at hK;(repeat' ((conv=>whnf);first|(with_reducible first|refine aKE l zo ?_|refine hc ?_)|refine zG ?_|apply zA|intro h|exact zT));all_goals conv=>whnf
 all_goals
  simp only[aA]at*;first
   |exact kB hK (by rw[decide_eq_true zo,decide_eq_true zo];rfl)
   |exact iU hK (by rw[decide_eq_true zo,decide_eq_false zo];rfl)
   |exact iU hK (by rw[decide_eq_false zo];rfl)
theorem zE:∀(l s:List Bx),kO s (kL l)=kO s l
 |[],s=>rfl
 |b::l,s=>by
  by_cases h:b.ok
  ·have e:kL (b::l)=b::kL l:=by simp[kL,h]
   rw[e,kO,kO,aH h,aH h];split
   ·rfl
   ·exact zE l _
  ·have e:kL (b::l)=kL l:=by simp[kL,h]
   rw[e,kO,aF h];exact zE l s
theorem Tg(l:List Bx)(hl:l.length<1000000000){K:KT}(hK:K (.tup [iN (kX l).1,.v (.int .i64 (kX l).2)]) []):AC 214 [iN l] [] K:=by
 have hvl:=Ez l;refine hJ (aJl rfl rfl ?_);(repeat' ((conv=>whnf);first|(with_reducible refine aKE l hl ?_)|refine zG ?_|apply zA|intro h|exact zT));all_goals conv=>whnf
 have hv0:∀x,x∈kL l->x.ok:=fun x hx=>by simpa using(cR.1 hx).2
 have hm0:kX l=kO [] (kL l):=(zE l []).symm;generalize kL l=v at*;refine gV (Nat×List Bx) (fun g=>⟨0,[],[(4,iN g.2),(10,iN v),(11,.v (.int .i64 ((v.map iV).length:Nat))),(12,.v (.int .i64 g.1))]⟩) (fun g=>g.1<=v.length/\PSet g.2/\okL g.2/\kX l=kO g.2 (v.drop g.1)) (fun g=>v.length-g.1) (0,[]) ⟨aK _,Ef,H2,by rw[bP];exact hm0⟩ ?_ ?_
 ·exact leA
 rintro⟨i,s⟩ ⟨hi,hs,hos,hm⟩
 simp only at hi hs hos hm⊢;rcases aD i v.length with hil|hil
 ·obtain⟨x,hx⟩:=gex hil;have hd:v.drop i=x::v.drop (i+1):=by
   rw[aE hil]at hx;rw[<-bB hx,<-bA hil]
  have hxo:=hv0 x (aG hx);rw[hd,kO,aH hxo]at hm;have hadd:∀{K:KT},K (.tup [iN (nZ (rI s x)),.v (.int .i64 (pM (rI s x)))]) []->AC 217 [iN s,.lst [iV x],.fn (.func 264) [] []] [] K:=fun h=>
   Tf _ orB zI s [x] hos (fun y hy=>by rw[aU.1 hy];exact ok_get hxo) (by have:=hs.len;omega) zx h
  (repeat' ((conv=>whnf);first|(with_reducible first|refine iI hil ?_|refine iH hx ?_|refine hadd ?_)|refine zG ?_|apply zA|intro h|exact zT));all_goals conv=>whnf
  ·have hlen:¬4096<(rI s x).length:=fun hh=>limE_ne.2 hh h;rw[aF hlen]at hm;refine⟨(i+1,rI s x),⟨hil,E7 (by unfold rI at hlen;omega),D8 _ _ _,hm⟩,by simp only;omega,?_⟩;rw[show nZ (rI s x)=rI s x from by unfold nZ;rw[aF hlen]];simp only;rw[aN,aM];exact leA
  ·have hlen:4096<(rI s x).length:=limE_ne.1 h;rw[aH hlen]at hm;rw[hm]at hK;have h3:pM (rI s x)=3:=by unfold pM;rw[aH hlen]
   rw[h3];exact⟨_,hU hZ gY,hK⟩
 ·rw[bO hil,kO]at hm;rw[hm]at hK;(repeat' ((conv=>whnf);first|refine zG ?_|apply zA|intro h|exact zT));all_goals conv=>whnf
  exact⟨_,gY,hK⟩
theorem aBi(l:List Bx)(hl:l.length<1000000000){K:KT}(hK:K (.tup [iN (jK l).1,.v (.int .i64 (jK l).2)]) []):AC 216 [iN l] [] K:=by
 refine hJ (aQO rfl rfl ?_);unfold jK at hK;(repeat' ((conv=>whnf);first|(with_reducible first|refine Th l hl ?_|refine Tg l hl ?_)|refine zG ?_|apply zA|intro h|exact zT));all_goals conv=>whnf
 all_goals simp_all
 all_goals exact⟨_,gY,hK⟩
theorem aMc(fn:FuncId)(op:Bool->Bool->Bool)(hop:Opf fn op)(a b:List Bx)(ha:a.length<1000000000)(hb:b.length<1000000000){K:KT}(hK:K (.tup [iN (iP op a b).1,.v (.int .i64 (iP op a b).2)]) []):
  AC 138 [iN a,iN b,.fn (.func fn) [] []] [] K:=by
 refine hJ (aVK rfl rfl ?_);unfold iP at hK;have hr:∀{K:KT},K (.tup [iN (nZ (jH op 5 (jK a).1 (jK b).1)),.v (.int .i64 (pM (jH op 5 (jK a).1 (jK b).1)))]) []->AC 217 [iN (jK a).1,iN (jK b).1,.fn (.func fn) [] []] [] K:=fun h=>Tf fn op hop _ _ (O2 a) (O2 b) (by have:=(pD a).len;omega) (by have:=(pD b).len;omega) h;(repeat' ((conv=>whnf);first|(with_reducible first|refine aBi a ha ?_|refine aBi b hb ?_|refine hr ?_)|refine zG ?_|apply zA|intro h|exact zT));all_goals conv=>whnf
 all_goals simp_all
 all_goals first|exact⟨_,gY,hK⟩|exact⟨_,hU hZ gY,hK⟩
theorem V5(a b:List Bx)(ha:a.length<1000000000)(hb:b.length<1000000000){K:KT}(hK:K (.tup [iN (iP anB a b).1,.v (.int .i64 (iP anB a b).2)]) []):AC 192 [iN a,iN b] [] K:=by
 refine aQN rfl rfl ?_;(repeat' ((conv=>whnf);first|(with_reducible refine aMc _ anB aEn a b ha hb ?_)|refine zG ?_|apply zA|intro h|exact zT));all_goals conv=>whnf
 exact hK
theorem aSy(a b:List Bx)(ha:a.length<1000000000)(hb:b.length<1000000000){K:KT}(hK:K (.tup [iN (iP orB a b).1,.v (.int .i64 (iP orB a b).2)]) []):AC 193 [iN a,iN b] [] K:=by
 refine aVL rfl rfl ?_;(repeat' ((conv=>whnf);first|(with_reducible refine aMc _ orB zI a b ha hb ?_)|refine zG ?_|apply zA|intro h|exact zT));all_goals conv=>whnf
 exact hK
theorem aBj(a b:List Bx)(ha:a.length<1000000000)(hb:b.length<1000000000){K:KT}(hK:K (.tup [iN (iP woB a b).1,.v (.int .i64 (iP woB a b).2)]) []):AC 78 [iN a,iN b] [] K:=by
 refine aQP rfl rfl ?_;(repeat' ((conv=>whnf);first|(with_reducible refine aMc _ woB Ry a b ha hb ?_)|refine zG ?_|apply zA|intro h|exact zT));all_goals conv=>whnf
 exact hK
theorem aWg{e r:Int}{K:Int->Prop}(h0:e=r)(h1:0<=r)(h2:r<=255)(hk:K r):Wr .u8 e K:=by
 subst h0;refine Wr.intro ?_ hk;simp only[IntKind.wrap,IntKind.signed,IntKind.bits];simp;omega
theorem aKZ{e r:Int}{K:Int->Prop}(h0:e=r)(h1:0<=r)(h2:r<=65535)(hk:K r):Wr .u16 e K:=by
 subst h0;refine Wr.intro ?_ hk;simp only[IntKind.wrap,IntKind.signed,IntKind.bits];simp;omega
abbrev Ff(p0 p1 p2 p3 p4:Int):AV:=.agg [.v (.int .u32 p0),.v (.int .u32 p1),.v (.int .u8 p2),.v (.int .u16 p3),.v (.int .u16 p4)]
structure HdOk (p0 p1 p2 p3 p4:Int):Prop where
 l0:0<=p0
 l1:0<=p1
 l2:0<=p2
 l3:0<=p3
 l4:0<=p4
 h0:p0<=4294967295
 h1:p1<=4294967295
 h2:p2<=255
 h3:p3<=65535
 h4:p4<=65535
theorem Ti(p0 p1 p2 p3 p4:Int)(h:HdOk p0 p1 p2 p3 p4){K:KT}(hK:K (.agg [.v (.int .u32 p0),.v (.int .u32 p1),.v (.int .u32 p2),.v (.int .u32 p3),.v (.int .u32 p4)]) []):AC 105 [Ff p0 p1 p2 p3 p4] [] K:=by
 obtain⟨l0,l1,l2,l3,l4,h0,h1,h2,h3,h4⟩:=h;refine aJo rfl rfl ?_;(repeat' ((conv=>whnf);first|refine zG ?_|apply zA|intro h|exact zT));all_goals conv=>whnf
 exact hK
theorem aSx(p0 p1 p2 p3 p4:Int)(h:HdOk p0 p1 p2 p3 p4){K:KT}(hK:K (Ff p0 p1 p2 p3 p4) []):AC 172 [.agg [.v (.int .u32 p0),.v (.int .u32 p1),.v (.int .u32 p2),.v (.int .u32 p3),.v (.int .u32 p4)]] [] K:=by
 obtain⟨l0,l1,l2,l3,l4,h0,h1,h2,h3,h4⟩:=h;refine aQL rfl rfl ?_;(repeat' ((conv=>whnf);first|(refine kH zd ?_)|(with_reducible first|refine aWg rfl zo zo ?_|refine aKZ rfl zo zo ?_)|refine zG ?_|apply zA|intro h|exact zT));all_goals conv=>whnf
 exact hK
theorem Iw(f:Nat)(hf:f<=4)(p0 p1 p2 p3 p4 v:Int)(h:HdOk p0 p1 p2 p3 p4)(hv0:0<=v)(hv:v<=iX f){K:KT}
  (hK:K (Ff (if f=0 then v else p0) (if f=1 then v else p1) (if f=2 then v else p2) (if f=3 then v else p3) (if f=4 then v else p4)) []):AC 107 [Ff p0 p1 p2 p3 p4,.v (.int .i64 f),.v (.int .u32 v)] [] K:=by
 refine aJp rfl rfl ?_;have h':HdOk (if f=0 then v else p0) (if f=1 then v else p1) (if f=2 then v else p2) (if f=3 then v else p3) (if f=4 then v else p4):=by
  obtain⟨l0,l1,l2,l3,l4,h0,h1,h2,h3,h4⟩:=h;obtain rfl|rfl|rfl|rfl|rfl:f=0\/f=1\/f=2\/f=3\/f=4:=by omega
  all_goals(simp only[iX]at hv;constructor<;>simp<;>omega)
 obtain rfl|rfl|rfl|rfl|rfl:f=0\/f=1\/f=2\/f=3\/f=4:=by omega
 all_goals
  simp only[iX]at hv;simp only[if_true,if_false,Nat.reduceEqDiff,reduceIte,Nat.zero_ne_one,Nat.one_ne_zero]at h' hK;(repeat' ((conv=>whnf);first|(with_reducible first|refine Ti _ _ _ _ _ h ?_|refine aSx _ _ _ _ _ h' ?_)|(refine kH zd ?_)|refine zG ?_|apply zA|intro h|exact zT));all_goals conv=>whnf
  exact hK
theorem aFA(xs:List AV)(n:Nat)(hn:xs.length=n)(hn2:n<1000)(p0 p1 s0 s1 d0 d1:Int){K:KT}
  (hK:K (.tup []) [.box [.os 2 10 0 (n+1)],.box [],.arr 10 (xs++[.agg [.v (.int .u32 0),.v (.int .u32 4294967295),.v (.int .u32 0),.v (.int .u32 4294967295),.v (.int .u32 p0),.v (.int .u32 p1),.v (.int .u32 s0),.v (.int .u32 s1),.v (.int .u32 d0),.v (.int .u32 d1)]])]):
  AC 262 [.v (.int .u32 p0),.v (.int .u32 p1),.v (.int .u32 s0),.v (.int .u32 s1),.v (.int .u32 d0),.v (.int .u32 d1),.op 0 0] [.box [.os 1 10 0 n],.arr 10 xs] K:=by
 refine aEf rfl rfl ?_;(repeat' ((conv=>whnf);first|(with_reducible refine Fa ?_)|(refine kH zd ?_)|(with_reducible refine iT hn ?_)|refine zG ?_|apply zA|intro h|exact zT));all_goals conv=>whnf
 exact hK
theorem aBh{K:KT}(hK:K (iN initS) []):AC 190 [] [] K:=by
 have hTop:∀{K:KT},K (.v (.int .u32 65535)) []->AC 231 [.v (.int .i64 4)] [] K:=fun h=>V6 4 h;refine aJk rfl rfl ?_;(repeat' ((conv=>whnf);first|(with_reducible refine hTop ?_)|(refine aFA _ _ (by rfl) zd _ _ _ _ _ _ ?_)|refine zG ?_|apply zA|intro h|exact zT));all_goals conv=>whnf
 exact hK
end Go.Proofs.YtgicddadddhonaaGreatDoor
