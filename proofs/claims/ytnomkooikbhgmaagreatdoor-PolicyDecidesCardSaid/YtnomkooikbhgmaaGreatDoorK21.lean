/- Lemmas. -/
import Derived.Test.YtnomkooikbhgmaaGreatDoorK20
set_option linter.unusedVariables false
set_option linter.unusedSimpArgs false
set_option maxRecDepth 100000
set_option maxHeartbeats 4000000
noncomputable section
namespace Go.Proofs.YtnomkooikbhgmaaGreatDoor
open Go Go.Vm
def Il(acc:List Int)(x:Int):List Int:=if acc.getLast?=some x then acc else acc++[x]
def comp(l:List Int):List Int:=l.foldl Il []
theorem tY{l:List Int}{r:Nat}{x:Int}(h:l[r]? =some x):comp (l.take (r+1))=Il (comp (l.take r)) x:=by
 simp[comp,bF,h]
theorem Xw:∀(l:List Int) {r:Nat} {x:Int},l[r]? =some x->(comp (l.take (r+1))).getLast?=some x:=by
 intro l r x h;rw[tY h,Il];split
 ·assumption
 ·simp
theorem xV{l:List Int}{r:Nat}{x y:Int}(h:l[r]? =some x)(h1:l[r+1]? =some y):comp (l.take (r+2))=if x=y then comp (l.take (r+1))else comp (l.take (r+1))++[y]:=by
 rw[tY h1,Il,Xw l h];simp only[bQ]
theorem Qi(l:List Int):∀r,(comp (l.take r)).length<=r:=by
 intro r
 induction r with
 |zero=>simp[comp]
 |succ r ih=>
  rcases aC r l.length with h|h
  ·obtain⟨x,hx⟩:=gex h;rw[tY hx,Il];split
   ·omega
   ·simp;omega
  ·rw[aU zo,<-aU h];omega
theorem aKK(l:List Int)(hl:l.length<1000000000000){K:KT}(hK:∀zs,K (.os 0 1 0 (comp l).length) [.arr 1 ((comp l).map mB++zs)]):
  AC 309 [.os 0 1 0 l.length] [.arr 1 (l.map mB)] K:=by
 refine aHC rfl rfl ?_;rcases aC l.length 2 with h2|h2
 ·have e:comp l=l:=by
   rcases l with _|⟨x,_|⟨y,l⟩⟩
   ·rfl
   ·rfl
   ·simp only[aB]at h2;omega
  have:=hK [];rw[e,bI]at this;(repeat' ((conv=>whnf);first|refine zG ?_|apply zA|intro h|exact zT));all_goals conv=>whnf
  exact this
 ·(repeat' ((conv=>whnf);first|refine zG ?_|apply zA|intro h|exact zT));all_goals conv=>whnf
  refine gM Nat (fun k=>⟨1,[(0,.arr 1 (l.map mB))],[(0,.os 0 1 0 l.length),(3,.v (.int .i64 k))]⟩) (fun k=>1<=k/\k<=l.length/\comp (l.take k)=l.take k) (fun k=>l.length-k) 1 ⟨aK _,by omega,?_⟩ ?_ ?_
  ·rcases l with _|⟨x,l⟩
   ·exact absurd h2 zx
   ·rfl
  ·exact leA
  intro k ⟨hk1,hk2,hk3⟩;rcases aC k l.length with hkl|hkl
  ·obtain⟨m,rfl⟩:∃m,k=m+1:=⟨k-1,by omega⟩
   obtain⟨x,hx⟩:∃x,l[m]? =some x:=⟨_,aE zo⟩
   obtain⟨y,hy⟩:∃y,l[m+1]? =some y:=⟨_,aE hkl⟩
   have hx0:l[0+m]? =some x:=by rw[bD];exact hx
   have hy0:l[0+(m+1)]? =some y:=by rw[bD];exact hy
   have hn:=xV hx hy;(repeat' ((conv=>whnf);first|(with_reducible refine iA hkl ?_)|(refine gU m zo zo ?_)|(with_reducible first|refine hU hx0 ?_|refine hU hy0 ?_)|(refine gZ (m+1) l.length rfl rfl zo (aK _) ?_)|refine zG ?_|apply zA|intro h|exact zT));all_goals conv=>whnf
   ·have hxy:x=y:=h.symm;rw[aH hxy,hk3]at hn;refine gM Nat (fun q=>⟨1,[(0,.arr 1 ((comp (l.take (m+2+q))++l.drop (comp (l.take (m+2+q))).length).map mB))],[(0,.os 0 1 0 l.length),(3,.v (.int .i64 (comp (l.take (m+2+q))).length)),(4,.os 0 1 (0+(m+1)) (l.length-(m+1))),(5,.v (.int .i64 ((q+1:Nat):Int)))]⟩) (fun q=>m+2+q<=l.length/\(comp (l.take (m+2+q))).length<m+2+q) (fun q=>l.length-q) 0 ⟨by omega,by rw[dV,hn,aZ];omega⟩ ?_ ?_
    ·have e1:(l.take (m+1)).length=m+1:=by rw[aZ];omega
     rw[dV,hn,e1,cN];exact leA
    intro q ⟨hq1,hq2⟩;obtain⟨C,hC⟩:∃C,C=comp (l.take (m+2+q)):=⟨_,rfl⟩
    rw[<-hC]at hq2⊢;rcases aC (m+2+q) l.length with hql|hql
    ·obtain⟨u,hu⟩:∃u,l[m+1+q]? =some u:=⟨_,aE zo⟩
     obtain⟨v,hv⟩:∃v,l[m+1+q+1]? =some v:=⟨_,aE zo⟩
     have hnx:=xV hu hv;rw[show m+1+q+2=m+2+(q+1) by omega,show m+1+q+1=m+2+q by omega,<-hC]at hnx;have hget:∀i,C.length<=i->(C++l.drop C.length)[i]? =l[i]? :=fun i hi=>by
      rw[bH hi,cD]
      congr 1;omega
     have hu0:(C++l.drop C.length)[0+(m+1)+q]? =some u:=by rw[bD,hget _ zo];exact hu
     have hv0:(C++l.drop C.length)[0+(m+1)+(q+1)]? =some v:=by rw[bD,hget _ zo];exact hv
     obtain⟨z,hz⟩:∃z,l[C.length]? =some z:=⟨_,aE zo⟩
     have hz0:(C++l.drop C.length)[0+C.length]? =some z:=by rw[bD,hget _ (aK _)];exact hz
     have hCn:C.length<l.length:=by omega
     have hdr:l.drop C.length=z::l.drop (C.length+1):=by
      rw[aE hCn]at hz;rw[<-bG hz,<-bB hCn]
     have hset:((C++l.drop C.length).map mB).set (0+C.length) (mB v)=((C++[v])++l.drop (C++[v]).length).map mB:=by
      rw[bD,<-eW,dZ _ _ (aK _),dT,hdr];simp
     (repeat' ((conv=>whnf);first|(refine gU q zo zo ?_)|(refine gU (q+1) zo zo ?_)|(with_reducible first|refine iA hCn ?_|refine hU hu0 ?_|refine hU hv0 ?_|refine hU hz0 ?_)|refine zG ?_|apply zA|intro h|exact zT));all_goals conv=>whnf
     all_goals first
      |(rw[aF (fun e=>h e.symm)]at hnx
        refine⟨q+1,⟨by omega,by rw[hnx,aD];simp;omega⟩,by omega,?_⟩;rw[hnx,hset,show((C++[v]).length:Int)=(C.length:Int)+1 by simp,show((q+1+1:Nat):Int)=((q+1:Nat):Int)+1 by omega];exact leA)
      |(rw[aH (by first|exact h.symm|exact(Decidable.not_not.1 h).symm)]at hnx
        refine⟨q+1,⟨by omega,by rw[hnx];omega⟩,by omega,?_⟩;rw[hnx,show((q+1+1:Nat):Int)=((q+1:Nat):Int)+1 by omega];(exact leA))
    ·have hCl:C=comp l:=by rw[hC,aU hql]
     have hCn:C.length<=l.length:=by omega
     (repeat' ((conv=>whnf);first|(refine gZ C.length l.length rfl rfl hCn (aK _) ?_)|(refine gZ 0 C.length rfl rfl (aO _) hCn ?_)|refine zG ?_|apply zA|intro h|exact zT));all_goals conv=>whnf
     have e1:(List.map mB (C++l.drop C.length)).take (0+C.length)=C.map mB:=by
      rw[bD,aQ,fF zx]
     rw[e1,dV,eN,hCl];exact hK _
   ·refine⟨m+2,⟨by omega,by omega,?_⟩,by omega,?_⟩
    ·rw[hn,aF (fun e=>h e.symm),hk3,bF (i:=m+1),hy];rfl
    ·rw[show((m+2:Nat):Int)=((m+1:Nat):Int)+1 by omega];exact leA
  ·have e:comp l=l:=by rw[aU hkl]at hk3;exact hk3
   have:=hK [];rw[e,bI]at this;(repeat' ((conv=>whnf);first|refine zG ?_|apply zA|intro h|exact zT));all_goals conv=>whnf
   exact this
theorem tL(l:List Int):∀r,r<=l.length->∀z,z∈comp (l.take r)↔z∈l.take r:=by
 intro r
 induction r with
 |zero=>intro _ z;simp[comp]
 |succ r ih=>
  intro hr z;obtain⟨x,hx⟩:∃x,l[r]? =some x:=⟨_,aE zo⟩
  rw[tY hx,Il,bF,hx];have h:=ih zo z;split
  ·rename_i hl;have:x∈comp (l.take r):=List.mem_of_getLast? hl;simp only[eH,aY,aW,h];constructor
   ·intro h;exact .inl h
   ·rintro(h|rfl)
    ·exact h
    ·exact(ih zo z).1 this
  ·simp[h]
theorem Qj{l:List Int}{z:Int}:z∈comp l↔z∈l:=by
 have:=tL l l.length (aK _) z
 rwa[dA]at this
theorem Nl{l:List Int}(h:l.Pairwise (· <= ·)):∀r,r<=l.length->(comp (l.take r)).Pairwise (· < ·):=by
 intro r
 induction r with
 |zero=>intro _;simp[comp]
 |succ r ih=>
  intro hr;obtain⟨x,hx⟩:∃x,l[r]? =some x:=⟨_,aE zo⟩
  rw[tY hx,Il];have h0:=ih zo;split
  ·exact h0
  ·rename_i hl;rw[dM];refine⟨h0,by simp,fun a ha b hb=>?_⟩;rw[aW]at hb;subst hb;have ha':=(tL l r zo a).1 ha;have hle:∀c,c∈l.take r->c<=b:=fun c hc=>by
    have h1:(l.take (r+1)).Pairwise (· <= ·):=h.sublist (List.take_sublist _ _);rw[bF,hx]at h1;exact(dM.1 h1).2.2 c hc b zx
   have hne:a≠b:=by
    rintro rfl
    obtain⟨i,g,hg⟩:∃i g,comp (l.take r)=i++[g]:=by
     rcases cT (comp (l.take r))with h|⟨i,g,h⟩
     ·rw[h]at ha;simp at ha
     ·exact⟨i,g,by rw[h,cU]⟩
    rw[hg]at hl ha h0;simp only[cS,cH,dN,bQ]at hl;have hgl:g<=a:=hle g ((tL l r zo g).1 (by rw[hg];simp));rcases aY.1 ha with ha|ha
    ·have:=(dM.1 h0).2.2 a ha g zx;omega
    ·rw[aW]at ha;exact hl ha.symm
   have:=hle a ha';omega
theorem Vo{l:List Int}(h:l.Pairwise (· <= ·)):(comp l).Pairwise (· < ·):=by
 have:=Nl h l.length (aK _)
 rwa[dA]at this
theorem Iw{f:Nat}{l:List Bx}{k:Nat}{x:Bx}(h:l[k]? =some x):jZ f (l.take (k+1))=jZ f (l.take k)++[(x.get f).lo,(x.get f).hi+1]:=by
 simp[jZ,bF,h]
theorem rU(f:Nat)(l:List Bx):(jZ f l).length=2*l.length:=by
 induction l with
 |nil=>rfl
 |cons x l ih=>rw[jZ,dD,aD];rw[jZ]at ih;rw[ih,aB];simp;omega
theorem aAJ(a b:List Bx)(f:Nat)(hf:f<=4)(ha:a.length<1000000000)(hb:b.length<1000000000){K:KT}
  (hK:∀st:List Int,st.Pairwise (· < ·)->(∀z,z∈st↔z=0\/z=iN f+1\/z∈jZ f a\/z∈jZ f b)->K (.lst (st.map mB)) []):
  AC 289 [.v (.int .i64 f),.lst [iE a,iE b]] [] K:=by
 refine aIk rfl rfl ?_;have hTop:∀{K:KT},K (.v (.int .u32 (iN f))) []->AC 119 [.v (.int .i64 f)] [] K:=fun h=>aAM _ (by rw[Kd hf];exact h);have ht:=kA f;(repeat' ((conv=>whnf);first|(with_reducible refine hTop ?_)|refine zG ?_|apply zA|intro h|exact zT));all_goals conv=>whnf
 refine Lp.times 3 ?_;(repeat' ((conv=>whnf);first|(refine kP rfl ?_)|(refine gV rfl ?_)|refine zG ?_|apply zA|intro h|exact zT));all_goals conv=>whnf
 refine gM Nat (fun k=>⟨1,[(0,.arr 1 (([0,iN f+1]++jZ f (a.take k)).map mB))],[(0,.v (.int .i64 f)),(5,.os 0 1 0 ([0,iN f+1]++jZ f (a.take k)).length),(15,.lst [iE a,iE b]),(16,.v (.int .i64 (([iE a,iE b].length:Nat):Int))),(17,.v (.int .i64 (0))),(21,iE a),(22,.v (.int .i64 ((a.map iY).length:Nat))),(23,.v (.int .i64 k))]⟩) (fun k=>k<=a.length) (fun k=>a.length-k) 0 (aO _) ?_ ?_
 ·rw[cP,show jZ f []=[]from rfl,bI];exact leA
 intro k hk;rcases aC k a.length with hkl|hkl
 ·obtain⟨x,hx⟩:=gex hkl;have hs:=Iw (f:=f) hx;have hlen:([0,iN f+1]++jZ f (a.take k)).length<=4000000010:=by
   have h1:=rU f (a.take k);have h2:=rU f a;rw[aZ]at h1;simp only[aD,aB,aG];omega
  have hr:((x.get f).hi<=4294967295/\0<=(x.get f).hi)/\(x.get f).lo<=4294967295/\0<=(x.get f).lo:=⟨⟨(x.get f).h1,(x.get f).h0⟩,(x.get f).l1,(x.get f).l0⟩
  obtain⟨⟨hr1,hr2⟩,hr3,hr4⟩:=hr;have happ:(([0,iN f+1]++jZ f (a.take (k+1))).map mB)=(([0,iN f+1]++jZ f (a.take k)).map mB)++[mB (x.get f).lo,mB ((x.get f).hi+1)]:=by
   rw[hs,<-cV,aQ];rfl
  have hll:([0,iN f+1]++jZ f (a.take (k+1))).length=([0,iN f+1]++jZ f (a.take k)).length+2:=by
   rw[hs,<-cV,aD];rfl
  generalize hA:([0,iN f+1]++jZ f (a.take k))=A at*;generalize hB:([0,iN f+1]++jZ f (a.take (k+1)))=B at*;rcases f with _|_|_|_|_|f
  case succ.succ.succ.succ.succ=>omega
  all_goals
   simp only[Bx.get]at happ hr1 hr2 hr3 hr4;(repeat' ((conv=>whnf);first|(with_reducible first|refine hZ hkl ?_|refine hU hx ?_)|(refine kP zd ?_)|refine zG ?_|apply zA|intro h|exact zT));all_goals conv=>whnf
   refine⟨k+1,by omega,by omega,?_⟩;rw[hB,happ,hll];exact leA
 ·rw[aU hkl];(repeat' ((conv=>whnf);first|(refine kP rfl ?_)|(refine gV rfl ?_)|refine zG ?_|apply zA|intro h|exact zT));all_goals conv=>whnf
  refine gM Nat (fun k=>⟨1,[(0,.arr 1 ((([0,iN f+1]++jZ f a)++jZ f (b.take k)).map mB))],[(0,.v (.int .i64 f)),(5,.os 0 1 0 (([0,iN f+1]++jZ f a)++jZ f (b.take k)).length),(15,.lst [iE a,iE b]),(16,.v (.int .i64 (([iE a,iE b].length:Nat):Int))),(17,.v (.int .i64 (0+1))),(21,iE b),(22,.v (.int .i64 ((b.map iY).length:Nat))),(23,.v (.int .i64 k))]⟩) (fun k=>k<=b.length) (fun k=>b.length-k) 0 (aO _) ?_ ?_
  ·rw[cP,show jZ f []=[]from rfl,bI];exact leA
  intro k hk;rcases aC k b.length with hkl|hkl
  ·obtain⟨x,hx⟩:=gex hkl;have hs:=Iw (f:=f) hx;have hlen:(([0,iN f+1]++jZ f a)++jZ f (b.take k)).length<=4000000010:=by
    have h1:=rU f (b.take k);have h2:=rU f a;rw[aZ]at h1;simp only[aD,aB,aG];omega
   have hr:((x.get f).hi<=4294967295/\0<=(x.get f).hi)/\(x.get f).lo<=4294967295/\0<=(x.get f).lo:=⟨⟨(x.get f).h1,(x.get f).h0⟩,(x.get f).l1,(x.get f).l0⟩
   obtain⟨⟨hr1,hr2⟩,hr3,hr4⟩:=hr;have happ:((([0,iN f+1]++jZ f a)++jZ f (b.take (k+1))).map mB)=((([0,iN f+1]++jZ f a)++jZ f (b.take k)).map mB)++[mB (x.get f).lo,mB ((x.get f).hi+1)]:=by
    rw[hs,<-cV,aQ];rfl
   have hll:(([0,iN f+1]++jZ f a)++jZ f (b.take (k+1))).length=(([0,iN f+1]++jZ f a)++jZ f (b.take k)).length+2:=by
    rw[hs,<-cV,aD];rfl
   generalize hA:(([0,iN f+1]++jZ f a)++jZ f (b.take k))=A at*;generalize hB:(([0,iN f+1]++jZ f a)++jZ f (b.take (k+1)))=B at*;rcases f with _|_|_|_|_|f
   case succ.succ.succ.succ.succ=>omega
   all_goals
    simp only[Bx.get]at happ hr1 hr2 hr3 hr4;(repeat' ((conv=>whnf);first|(with_reducible first|refine hZ hkl ?_|refine hU hx ?_)|(refine kP zd ?_)|refine zG ?_|apply zA|intro h|exact zT));all_goals conv=>whnf
    refine⟨k+1,by omega,by omega,?_⟩;rw[hB,happ,hll];exact leA
  ·rw[aU hkl];have hl:([0,iN f+1]++jZ f a++jZ f b).length<1000000000000:=by
    have h1:=rU f a;have h2:=rU f b;simp only[aD,aB,aG];omega
   (repeat' ((conv=>whnf);first|(with_reducible refine aKW _ hl fun l' hp hs=>?_)|refine zG ?_|apply zA|intro h|exact zT));all_goals conv=>whnf
   have hll:([0,iN f+1]++jZ f a++jZ f b).length=l'.length:=hp.length_eq.symm;rw[hll]at hl⊢;(repeat' ((conv=>whnf);first|(with_reducible refine aKK l' hl fun zs=>?_)|refine zG ?_|apply zA|intro h|exact zT));all_goals conv=>whnf
   refine Sl.intro (ys:=(comp l').map mB) zx (by rw[cA,fF zx]) ?_;refine hK (comp l') (Vo hs) fun z=>?_;rw[Qj,hp.mem_iff];simp only[aY,aV,dR,or_false,or_assoc]
theorem aJx(a b:List Bx)(ha:a.length<1000000000000)(hb:b.length<1000000000000){K:KT}(hK:K (.sb (decide (a=b))) []):AC 254 [iE a,iE b] [] K:=by
 refine gP (aPk rfl rfl ?_);(repeat' ((conv=>whnf);first|refine zG ?_|apply zA|intro h|exact zT));all_goals conv=>whnf
 ·have hl:a.length=b.length:=by
   rw[aA,aA]at h;omega
  refine gM Nat (fun k=>⟨0,[],[(0,iE a),(1,iE b),(12,.v (.int .i64 ((a.map iY).length:Nat))),(13,.v (.int .i64 k))]⟩) (fun k=>k<=a.length/\∀i,i<k->a[i]? =b[i]?) (fun k=>a.length-k) 0 ?_ ?_ ?_
  ·exact⟨aO _,fun i h=>absurd h (bC _)⟩
  ·exact leA
  intro k ⟨hk,hinv⟩;rcases aC k a.length with hkl|hkl
  ·have hkb:k<b.length:=by omega
   obtain⟨p,hp⟩:=gex hkl;obtain⟨q,hq⟩:=gex hkb;(repeat' ((conv=>whnf);first|(with_reducible first|refine hZ hkl ?_|refine hZ hkb ?_|refine hU hp ?_|refine hU hq ?_|refine aJG ?_)|refine zG ?_|apply zA|intro h|exact zT));all_goals conv=>whnf
   all_goals first
    |(refine⟨k+1,⟨by omega,fun i hi=>?_⟩,by omega,?_⟩
      ·rcases aC i k with h1|h1
       ·exact hinv i h1
       ·rw[show i=k by omega,hp,hq,h]
      ·rw[aN,aL];(exact leA))
    |(refine iL hK (decide_eq_false fun e=>?_)
      subst e;rw[hp]at hq;cases hq;exact h rfl)
  ·have hab:a=b:=by
    apply List.ext_getElem?;intro i;rcases aC i k with h1|h1
    ·exact hinv i h1
    ·rw[bN zo,bN zo]
   (repeat' ((conv=>whnf);first|refine zG ?_|apply zA|intro h|exact zT));all_goals conv=>whnf
   exact jU hK (decide_eq_true hab)
 ·exact iL hK (decide_eq_false fun e=>h (by rw[e]))
abbrev aBb(g:Grp (List Bx)):AV:=.agg [.v (.int .u32 g.lo),.v (.int .u32 g.hi),iE g.val]
def Opf(f:FuncId)(op:Bool->Bool->Bool):Prop:=∀(x y:Bool) {K:KT},K (.sb (op x y)) []->AC f [.sb x,.sb y] [] K
theorem Opf.ap{f:FuncId}{op:Bool->Bool->Bool}(h:Opf f op)(x y:Bool){K:KT}(hK:K (.sb (op x y)) []):AC f [.sb x,.sb y] [] K:=h x y hK
theorem Opf.ff{f:FuncId}{op:Bool->Bool->Bool}(h:Opf f op){K:KT}(hK:K (.sb (op false false)) []):AC f [.v (.bool false),.v (.bool false)] [] K:=
 ACall.args (ys:=[.sb false,.sb false]) ⟨Weak.bool,Weak.bool,trivial⟩ (h false false hK)
theorem Jv:Opf 151 orB:=fun x y K hK=>aAK x y hK
theorem aDp:Opf 154 anB:=fun x y K hK=>aLf x y hK
theorem Gu:Opf 156 woB:=fun x y K hK=>aLj x y hK
theorem aDT{xs zs:List AV}{n:Nat}{K:List AV->Prop}(h:xs.length=n)(hk:K xs):Sl (xs++zs) 0 n K:=
 Sl.intro (by rw[aD];omega) (by rw[cA,fF h]) hk
theorem C9{M:Int}:∀(l:List Int) (c:Int),c<=M+1->l.Pairwise (· < ·)->(∀x,x∈l->c<=x/\x<=M)->c+l.length<=M+1
 |[],c,hc,_,_=>by simpa using hc
 |x::l,c,hc,hp,h=>by
  obtain⟨h1,h2⟩:=bW.1 hp;have hx:=h x zx;have h3:∀y,y∈l->x+1<=y/\y<=M:=fun y hy=>by have:=h1 y hy;have:=h y (aS _ hy);omega
  have:=C9 l (x+1) zo h2 h3;rw[aB];omega
theorem aBG{gs:List (Grp (List Bx))}(h:∀g,g∈gs->g.val≠[]):gs.length<=jV gs:=by
 induction gs with
 |nil=>exact aO _
 |cons g gs ih=>
  have h1:=ih fun x hx=>h x (aS _ hx);have h2:1<=g.val.length:=by
   have:=h g zx;cases hv:g.val with
   |nil=>exact absurd hv this
   |cons=>simp
  simp only[jV,aR,dC,aB]at*;omega
theorem Z8(fn:FuncId)(op:Bool->Bool->Bool)(hop:Opf fn op)(most:Nat)(hm1:1<=most)(hm2:most<1000000000)(k:Nat)(hk:k<=4)
  (hIH:∀(a b:List Bx) {K:KT},okL a->okL b->a.length<1000000000->b.length<1000000000->K (.tup [iE (if(iX op k a b).length<=most then iX op k a b else []),.sb (decide ((iX op k a b).length<=most))]) []->AC 231 [.v (.int .i64 (((4-k:Nat):Int)+1)),iE a,iE b,.fn (.func fn) [] [],.v (.int .i64 most)] [] K)
  (a b:List Bx){K:KT}(hoa:okL a)(hob:okL b)(ha:a.length<1000000000)(hb:b.length<1000000000)(hK:K (.tup [iE (if(iX op (k+1) a b).length<=most then iX op (k+1) a b else []),.sb (decide ((iX op (k+1) a b).length<=most))]) []):
  AC 231 [.v (.int .i64 ((4-k:Nat):Int)),iE a,iE b,.fn (.func fn) [] [],.v (.int .i64 most)] [] K:=by
 have hf4:4-k<=4:=by omega
 have ht:=kA (4-k);have hdead:a.length+b.length=0->op false false=false->iX op (k+1) a b=[]:=fun h h2=>by
  have e1:a=[]:=cG.1 zo;have e2:b=[]:=cG.1 zo;rw[e1,e2];exact Fc op h2 (k+1)
 refine gQ (aDf rfl rfl ?_);(repeat' ((conv=>whnf);first|(with_reducible refine hop.ff ?_)|refine zG ?_|apply zA|intro h|exact zT));all_goals conv=>whnf
 refine Jn.at ⟨0,[],[(0,.v (.int .i64 ((4-k:Nat):Int))),(1,iE a),(2,iE b),(3,.fn (.func fn) [] []),(4,.v (.int .i64 most))]⟩ ?_ ?_
 ·(repeat' ((conv=>whnf);first|(with_reducible refine hop.ff ?_)|refine zG ?_|apply zA|intro h|exact zT));all_goals conv=>whnf
  ·refine⟨(),trivial,?_⟩;exact leA
  ·refine⟨_,gR gS Weak.bool,?_⟩;rw[hdead (by simp only[aA]at*;omega) h]at hK;rw[aG,aH (aO _),decide_eq_true (aO _)]at hK;exact hK
  ·refine⟨(),trivial,?_⟩;exact leA
 (repeat' ((conv=>whnf);first|(with_reducible refine aAJ a b (4-k) hf4 zo zo fun st' hs hm=>?_)|refine zG ?_|apply zA|intro h|exact zT));all_goals conv=>whnf
 obtain⟨st,rfl,hcuts⟩:=Vy (fun x hx=>hx.elim (fun h=>hoa x h _ hf4) fun h=>hob x h _ hf4) hs hm;have hR:∀u v,(∀r,r∈lH (4-k) a b->((r.lo<=u/\u<=r.hi)↔(r.lo<=v/\v<=r.hi)))->iM op k a b u=iM op k a b v:=fun u v h=>vI h;rw[Ih op k a b hcuts,pD]at hK;have hstl:(0:Int)+st.length<=iN (4-k)+1:=C9 st 0 zo hcuts.sorted hcuts.range;refine gM Nat (fun i=>⟨1,[(0,.arr 3 ((oM (iM op k a b) (iN (4-k)) st i).map aBb))],[(0,.v (.int .i64 ((4-k:Nat):Int))),(1,iE a),(2,iE b),(3,.fn (.func fn) [] []),(4,.v (.int .i64 most)),(12,.os 0 3 0 (oM (iM op k a b) (iN (4-k)) st i).length),(13,.v (.int .i64 (jV (oM (iM op k a b) (iN (4-k)) st i)))),(14,.lst ((st++[iN (4-k)+1]).map mB)),(15,.v (.int .i64 i))]⟩)
  (fun i=>i<=st.length/\jV (oM (iM op k a b) (iN (4-k)) st i)<=most) (fun i=>st.length-i) 0 ⟨aO _,aO _⟩ ?_ ?_
 ·exact leA
 intro i ⟨hi,hsz⟩;rcases aC i st.length with hil|hil
 ·obtain⟨x,hx⟩:=gex hil;have hto:=G0 hcuts hx;have hgi:=Fm hcuts hR i x hx;have hsucc:=rW (R:=iM op k a b) (top:=iN (4-k)) hx;have hle1:=xY (R:=iM op k a b) (top:=iN (4-k)) (st:=st) (i+1);have hrs:=Mh (R:=iM op k a b) (top:=iN (4-k)) hx;have hx':(st++[iN (4-k)+1])[i]? =some x:=by rw[bE hil];exact hx
  have hy':=Uz (top:=iN (4-k)) hil;have hpl:i+1<(st++[iN (4-k)+1]).length:=by simp;omega
  have hpl0:i<(st++[iN (4-k)+1]).length:=by omega
  have hgl:=aBG hgi.full;obtain⟨rest,hdr⟩:∃rest,iM op k a b x=rest:=⟨_,rfl⟩
  obtain⟨to,hdto⟩:∃to,pO (iN (4-k)) st i=to:=⟨_,rfl⟩
  rw[hdr,hdto]at hsucc;rw[hdr]at hrs;rw[hdto]at hto hy';have hcall:∀{K:KT},K (.tup [iE (if rest.length<=most then rest else []),.sb (decide (rest.length<=most))]) []->AC 231 [.v (.int .i64 (((4-k:Nat):Int)+1)),iE (atF (4-k) x a),iE (atF (4-k) x b),.fn (.func fn) [] [],.v (.int .i64 most)] [] K:=fun h=>by
   have l1:=sY (4-k) x a;have l2:=sY (4-k) x b;refine hIH (atF (4-k) x a) (atF (4-k) x b) (Ov hoa) (Ov hob) zo zo ?_;rw[show iX op k (atF (4-k) x a) (atF (4-k) x b)=rest from hdr];exact h
  have hto1:to+1-1=to:=by omega
  by_cases hle:rest.length<=most
  case neg=>
   have hc2:∀{K:KT},K (.tup [iE [],.sb false]) []->AC 231 [.v (.int .i64 (((4-k:Nat):Int)+1)),iE (atF (4-k) x a),iE (atF (4-k) x b),.fn (.func fn) [] [],.v (.int .i64 most)] [] K:=fun h=>hcall (by rw[aF hle,decide_eq_false hle];exact h);clear hcall hIH;rw[aF zo,decide_eq_false zo]at hK;(repeat' ((conv=>whnf);first|(with_reducible first|refine hZ hpl0 ?_|refine gU (i+1) zo (by rw[aA];exact hpl) ?_|refine hU hx' ?_|refine hU hy' ?_|refine xP hto1 zo zo ?_|refine Gg a (4-k) hf4 x zo ?_|refine Gg b (4-k) hf4 x zo ?_|refine hc2 ?_)|refine zG ?_|apply zA|intro h|exact zT));all_goals conv=>whnf
   exact⟨_,gR gS Weak.bool,hK⟩
  have hc2:∀{K:KT},K (.tup [iE rest,.sb true]) []->AC 231 [.v (.int .i64 (((4-k:Nat):Int)+1)),iE (atF (4-k) x a),iE (atF (4-k) x b),.fn (.func fn) [] [],.v (.int .i64 most)] [] K:=fun h=>hcall (by rw[aH hle,decide_eq_true hle];exact h);clear hcall hIH;have hsz1:=xY (R:=iM op k a b) (top:=iN (4-k)) (st:=st) (i+1);obtain⟨gs',hgs'⟩:∃gs',oM (iM op k a b) (iN (4-k)) st (i+1)=gs':=⟨_,rfl⟩
  rw[hgs']at hsz1 hsucc hle1;have next:jV gs'<=most->∃g':Nat,(g'<=st.length/\jV (oM (iM op k a b) (iN (4-k)) st g')<=most)/\g'=i+1/\oM (iM op k a b) (iN (4-k)) st g'=gs':=fun h=>⟨i+1,⟨hil,by rw[hgs'];exact h⟩,rfl,hgs'⟩
  generalize oM (iM op k a b) (iN (4-k)) st i=gs at*;have hsum:(jV gs:Int)+((rest.map iY).length:Int)=((jV gs+rest.length:Nat):Int):=by rw[aA];omega
  have hover:most<jV gs'->∃y,Weak (.tup [.nils,.v (.bool false)]) y/\K y []:=fun h=>by
   rw[aF zo,decide_eq_false zo]at hK;exact⟨_,gR gS Weak.bool,hK⟩
  rcases cT gs with hn|⟨ini,g,hc⟩
  ·subst hn;have hs2:rest≠[]->gs'=[⟨x,to,rest⟩]:=fun h=>by
    rw[hsucc];unfold nH;rw[aF (by simpa using h)];rfl
   (repeat' ((conv=>whnf);first|(with_reducible first|refine hZ hpl0 ?_|refine gU (i+1) zo (by rw[aA];exact hpl) ?_|refine hU hx' ?_|refine hU hy' ?_|refine xP hto1 zo zo ?_|refine Gg a (4-k) hf4 x zo ?_|refine Gg b (4-k) hf4 x zo ?_|refine hc2 ?_|refine jB hsum zo zo ?_)|refine zG ?_|apply zA|intro h|exact zT));all_goals conv=>whnf
   ·have e0:rest=[]:=cG.1 (by simp only[aA]at h;omega);rw[e0,D1]at hsucc;refine⟨i+1,⟨hil,by rw[hgs',hsucc];exact hsz⟩,by omega,?_⟩;rw[hgs',hsucc];exact leA
   ·rename_i h0;have e1:=hs2 fun e=>h0 (by rw[e];rfl);refine hover ?_;rw[e1];simp only[jV,aR,bL,dC,List.sum_nil]at*;omega
   ·rename_i h0;have e1:=hs2 fun e=>h0 (by rw[e];rfl);have e2:jV gs'=jV []+rest.length:=by rw[e1];simp[jV]
    refine⟨i+1,⟨hil,by rw[hgs'];omega⟩,by omega,?_⟩;rw[hgs',e2,e1];exact leA
  ·rw[cU]at hc;subst hc;have hgl2:=hgi.low g zx;have hgle:=hgi.wf.le g zx;have hil2:ini.length<(ini++[g]).length:=by simp
   have hel:(ini++[g])[0+ini.length]? =some g:=by simp
   have hlen:(ini++[g]).length=ini.length+1:=by simp
   have hsz2:=mC ini g;have hs2:rest≠[]->gs'=if g.hi+1=x/\g.val=rest then ini++[⟨g.lo,to,g.val⟩]else(ini++[g])++[⟨x,to,rest⟩]:=fun h=>by
    rw[hsucc];unfold nH;rw[aF (by simpa using h)];simp only[cS,cH,dN,dI,uY]
   (repeat' ((conv=>whnf);first|(with_reducible first|refine hZ hpl0 ?_|refine gU (i+1) zo (by rw[aA];exact hpl) ?_|refine hU hx' ?_|refine hU hy' ?_|refine xP hto1 zo zo ?_|refine Gg a (4-k) hf4 x zo ?_|refine Gg b (4-k) hf4 x zo ?_|refine hc2 ?_|refine gU ini.length (by rw[hlen];omega) zo ?_|refine hU hel ?_|refine aJx g.val rest zo zo ?_|refine jB hsum zo zo ?_)|refine zG ?_|apply zA|intro h|exact zT));all_goals conv=>whnf
   all_goals have hne:¬(((rest.map iY).length:Nat):Int)=0->rest≠[]:=fun h e=>h (by rw[e];rfl)
   ·have e0:rest=[]:=cG.1 (by simp only[aA]at h;omega);rw[e0,D1]at hsucc;refine⟨i+1,⟨hil,by rw[hgs',hsucc];exact hsz⟩,by omega,?_⟩;rw[hgs',hsucc];exact leA
   ·rename_i h0 h1;have e1:=hs2 (hne h0);rw[aH ⟨h1,h⟩]at e1;have e2:jV gs'=jV (ini++[g]):=by rw[e1,mC,mC]
    have e3:(ini++[Grp.mk g.lo to g.val]).length=(ini++[g]).length:=by rw[hlen];simp
    have e4:(ini++[Grp.mk g.lo to g.val]).map aBb=((ini++[g]).map aBb).set (0+ini.length) (.agg [.v (.int .u32 g.lo),.v (.int .u32 to),iE g.val]):=by
     rw[bD,aQ,aQ,dZ _ _ zx];simp
    refine⟨i+1,⟨hil,by rw[hgs',e2];exact hsz⟩,by omega,?_⟩;rw[hgs',e2,e1,e3,e4];exact leA
   ·rename_i h0 h1 h2;have e1:=hs2 (hne h0);rw[aF fun e=>h2 e.2]at e1;exact hover (by rw[e1,mC];simp only;omega)
   ·rename_i h0 h1 h2;have e1:=hs2 (hne h0);rw[aF fun e=>h2 e.2]at e1;have e2:jV gs'=jV (ini++[g])+rest.length:=by rw[e1,mC]
    refine⟨i+1,⟨hil,by rw[hgs'];omega⟩,by omega,?_⟩;rw[hgs',e2,e1,aD,aQ (l₁:=ini++[g])];exact leA
   ·rename_i h0 h1;have e1:=hs2 (hne h0);rw[aF fun e=>h1 e.1]at e1;exact hover (by rw[e1,mC];simp only;omega)
   ·rename_i h0 h1;have e1:=hs2 (hne h0);rw[aF fun e=>h1 e.1]at e1;have e2:jV gs'=jV (ini++[g])+rest.length:=by rw[e1,mC]
    refine⟨i+1,⟨hil,by rw[hgs'];omega⟩,by omega,?_⟩;rw[hgs',e2,e1,aD,aQ (l₁:=ini++[g])];exact leA
 ·have hii:i=st.length:=by omega
  have hgf:=(wS (R:=iM op k a b) (top:=iN (4-k)) (aK st.length))
  have hinv:=oB op k a b hcuts;have hpn:¬((st.length:Int)+1<(((st++[iN (4-k)+1]).map mB).length:Nat)):=by simp
  rw[hii,hgf]at hsz⊢;clear hIH hR hcuts hdead hm hs hgf;generalize kD (iM op k a b) (iN (4-k)) st=gs at*;rw[aH hsz,decide_eq_true hsz]at hK;have hgl:=aBG hinv.full;(repeat' ((conv=>whnf);first|(with_reducible first|refine kP zd ?_|refine gU (jV gs) rfl zo ?_|refine Ob.intro ⟨aO _,bA (dY _ (bA hsz (Nat.le_of_lt hm2))) (bY zk)⟩ ?_)|refine zG ?_|apply zA|intro h|exact zT));all_goals conv=>whnf
  refine gM (Nat×List AV) (fun g=>⟨2,[(1,.arr 10 ((iR (4-k) (gs.take g.1)).map iY++g.2)),(0,.arr 3 (gs.map aBb))],[(0,.v (.int .i64 ((4-k:Nat):Int))),(20,.os 1 10 0 (iR (4-k) (gs.take g.1)).length),(146,.os 0 3 0 gs.length),(147,.v (.int .i64 gs.length)),(148,.v (.int .i64 g.1))]⟩)
   (fun g=>g.1<=gs.length) (fun g=>gs.length-g.1) (0,List.replicate (jV gs) (iY zB)) (aO _) ?_ ?_
  ·exact leA
  rintro⟨j,zs⟩ hj
  simp only at hj⊢;rcases aC j gs.length with hjl|hjl
  ·obtain⟨g,hg⟩:=gex hjl;have hg0:gs[0+j]? =some g:=by rw[bD];exact hg
   (repeat' ((conv=>whnf);first|(with_reducible first|refine iA hjl ?_|refine hU hg0 ?_)|refine zG ?_|apply zA|intro h|exact zT));all_goals conv=>whnf
   have hghi:=hinv.low g (aI hg);have hgle:=hinv.wf.le g (aI hg);have m1:(mkR g.lo g.hi).lo=g.lo:=kC zo zo zo zo;have m2:(mkR g.lo g.hi).hi=g.hi:=kO zo zo zo zo;have hsu:iR (4-k) (gs.take (j+1))=iR (4-k) (gs.take j)++g.val.map fun b=>b.put (4-k) (mkR g.lo g.hi):=by
    rw[bF,hg];exact vA
   have hfl1:(iR (4-k) (gs.take j)).length+g.val.length<=jV gs:=by
    have h1:=pD (4-k) (gs.take (j+1));have h2:jV (gs.take (j+1))<=jV gs:=by
     have:jV gs=jV (gs.take (j+1))+jV (gs.drop (j+1)):=by
      simp only[jV];rw[<-List.sum_append,<-aQ,cN]
     omega
    rw[hsu,aD,aA]at h1;omega
   obtain⟨F,hF⟩:∃F,iR (4-k) (gs.take j)=F:=⟨_,rfl⟩
   rw[hF]at hsu hfl1⊢;refine gM (Nat×List AV) (fun q=>⟨3,[(2,.box [.v (.int .u32 g.lo),.v (.int .u32 g.hi),iE g.val]),(1,.arr 10 ((F++(g.val.take q.1).map fun b=>b.put (4-k) (mkR g.lo g.hi)).map iY++q.2)),(0,.arr 3 (gs.map aBb))],[(0,.v (.int .i64 ((4-k:Nat):Int))),(20,.os 1 10 0 (F.length+q.1)),(22,.op 2 0),(146,.os 0 3 0 gs.length),(147,.v (.int .i64 gs.length)),(148,.v (.int .i64 j)),(153,iE g.val),(154,.v (.int .i64 ((g.val.map iY).length:Nat))),(155,.v (.int .i64 q.1))]⟩)
    (fun q=>q.1<=g.val.length) (fun q=>g.val.length-q.1) (0,zs) (aO _) ?_ ?_
   ·rw[cP,bL,bI];exact leA
   rintro⟨m,ys⟩ hm
   simp only at hm⊢;rcases aC m g.val.length with hml|hml
   ·obtain⟨z,hz⟩:=gex hml;have hnext:(F++(g.val.take (m+1)).map fun b=>b.put (4-k) (mkR g.lo g.hi)).map iY=(F++(g.val.take m).map fun b=>b.put (4-k) (mkR g.lo g.hi)).map iY++[iY (z.put (4-k) (mkR g.lo g.hi))]:=by
     simp only[bF,hz,eH,aQ,aR,bL,cV]
    have hAl:((F++(g.val.take m).map fun b=>b.put (4-k) (mkR g.lo g.hi)).map iY).length=F.length+m:=by
     rw[aA,aD,aA,aZ];omega
    generalize hA:(F++(g.val.take m).map fun b=>b.put (4-k) (mkR g.lo g.hi)).map iY=A at*;generalize hB:(F++(g.val.take (m+1)).map fun b=>b.put (4-k) (mkR g.lo g.hi)).map iY=B at*;obtain⟨V,hV⟩:∃V,V=iY (z.put (4-k) (mkR g.lo g.hi)):=⟨_,rfl⟩
    rw[<-hV]at hnext;obtain rfl|rfl|rfl|rfl|rfl:k=0\/k=1\/k=2\/k=3\/k=4:=by omega
    all_goals
     simp only[Nat.reduceSub,aDu,aDv,aDw,aDx,aDy,iY,m1,m2]at hV;rw[hV]at hnext;(repeat' ((conv=>whnf);first|(with_reducible first|refine hZ hml ?_|refine iA hml ?_|refine hU hz ?_)|(refine kP zd ?_)|(with_reducible refine aDT hAl ?_)|refine zG ?_|apply zA|intro h|exact zT));all_goals conv=>whnf
     refine⟨(m+1,[]),by simp only;omega,by simp only;omega,?_⟩;simp only;rw[hB,hnext,bI];exact leA
   ·(repeat' ((conv=>whnf);first|refine zG ?_|apply zA|intro h|exact zT));all_goals conv=>whnf
    have hmm:m=g.val.length:=by omega
    rw[hmm,dA,<-hsu];have e2:F.length+g.val.length=(iR (4-k) (gs.take (j+1))).length:=by rw[hsu,aD,aA]
    refine⟨(j+1,ys),hjl,by simp only;omega,?_⟩;simp only;rw[e2];exact leA
  ·rw[aU hjl];(repeat' ((conv=>whnf);first|(with_reducible refine aDT (by rw[aA]) ?_)|refine zG ?_|apply zA|intro h|exact zT));all_goals conv=>whnf
   exact⟨_,gR gO Weak.bool,hK⟩
theorem aJv(fn:FuncId)(op:Bool->Bool->Bool)(hop:Opf fn op)(most:Nat)(hm1:1<=most)(hm2:most<1000000000):∀(k:Nat),k<=5->∀(a b:List Bx) {K:KT},okL a->okL b->a.length<1000000000->b.length<1000000000->
  K (.tup [iE (if(iX op k a b).length<=most then iX op k a b else []),.sb (decide ((iX op k a b).length<=most))]) []->
  AC 231 [.v (.int .i64 ((5-k:Nat):Int)),iE a,iE b,.fn (.func fn) [] [],.v (.int .i64 most)] [] K
 |0,_,a,b,K,hoa,hob,ha,hb,hK=>by
  rw[iX]at hK;refine gQ (aDf rfl rfl ?_);(repeat' ((conv=>whnf);first|(with_reducible refine hop.ap _ _ ?_)|refine zG ?_|apply zA|intro h|exact zT));all_goals conv=>whnf
  ·rw[oQ,oQ]at h;rw[h,aH rfl,aH (by exact hm1),decide_eq_true (by exact hm1)]at hK;exact⟨_,gR gO Weak.bool,hK⟩
  ·rw[oQ,oQ]at h;simp only[h,bT,if_false,aG,aO,if_true,decide_true,ite_self]at hK;exact⟨_,gR gS Weak.bool,hK⟩
 |k+1,hk,a,b,K,hoa,hob,ha,hb,hK=>by
  rw[show 5-(k+1)=4-k by omega];refine Z8 fn op hop most hm1 hm2 k zo (fun a b K h1 h2 h3 h4 h5=>?_) a b hoa hob ha hb hK;rw[show((4-k:Nat):Int)+1=((5-k:Nat):Int) by omega];exact aJv fn op hop most hm1 hm2 k zo a b h1 h2 h3 h4 h5
def N6(c0 c1 c2 c3 c4:Int):Nat->Int
 |0=>c0
 |1=>c1
 |2=>c2
 |3=>c3
 |_=>c4
abbrev Na(c0 c1 c2 c3 c4:Int):Vm.Obj:=.box [.v (.int .u32 c0),.v (.int .u32 c1),.v (.int .u32 c2),.v (.int .u32 c3),.v (.int .u32 c4)]
def E7(k:Nat)(R:List Bx)(c0 c1 c2 c3 c4:Int)(K:AV->List Vm.Obj->Prop):Prop:=
 (∀d0 d1 d2 d3 d4,(∀f,f<=4->f+k<5->N6 d0 d1 d2 d3 d4 f=N6 c0 c1 c2 c3 c4 f)->(R≠[]->∀f,f<=4->5<=f+k->N6 d0 d1 d2 d3 d4 f=Om R f)->K (.sb (!R.isEmpty)) [Na d0 d1 d2 d3 d4])
theorem Ub(fn:FuncId)(hfn:fn=156)(op:Bool->Bool->Bool)(hop:Opf fn op)(k:Nat)(hk:k<=4)
  (hIH:∀(a b:List Bx) (c0 c1 c2 c3 c4:Int) {K:KT},okL a->okL b->a.length<1000000000->b.length<1000000000->E7 k (iX op k a b) c0 c1 c2 c3 c4 K->AC 255 [.v (.int .i64 (((4-k:Nat):Int)+1)),iE a,iE b,.fn (.func fn) [] [],.op 0 0] [Na c0 c1 c2 c3 c4] K)
  (a b:List Bx)(c0 c1 c2 c3 c4:Int){K:KT}(hoa:okL a)(hob:okL b)(ha:a.length<1000000000)(hb:b.length<1000000000)(hK:E7 (k+1) (iX op (k+1) a b) c0 c1 c2 c3 c4 K):
  AC 255 [.v (.int .i64 ((4-k:Nat):Int)),iE a,iE b,.fn (.func fn) [] [],.op 0 0] [Na c0 c1 c2 c3 c4] K:=by
 have hf4:4-k<=4:=by omega
 have ht:=kA (4-k);have hTop:∀{K:KT},K (.v (.int .u32 (iN (4-k)))) []->AC 119 [.v (.int .i64 ((4-k:Nat):Int))] [] K:=fun h=>aAM _ (by rw[Kd hf4];exact h);have hdead:a.length+b.length=0->op false false=false->iX op (k+1) a b=[]:=fun h h2=>by
  have e1:a=[]:=cG.1 zo;have e2:b=[]:=cG.1 zo;rw[e1,e2];exact Fc op h2 (k+1)
 subst hfn;refine gP (aDj rfl rfl ?_);(repeat' ((conv=>whnf);first|(with_reducible refine hop.ff ?_)|refine zG ?_|apply zA|intro h|exact zT));all_goals conv=>whnf
 refine Jn.at ⟨1,[(0,Na c0 c1 c2 c3 c4)],[(0,.v (.int .i64 ((4-k:Nat):Int))),(1,iE a),(2,iE b),(3,.fn (.func 156) [] []),(4,.op 0 0)]⟩ ?_ ?_
 ·(repeat' ((conv=>whnf);first|(with_reducible refine hop.ff ?_)|refine zG ?_|apply zA|intro h|exact zT));all_goals conv=>whnf
  ·refine⟨(),trivial,?_⟩;exact leA
  ·have e:=hdead (by simp only[aA]at*;omega) h;rw[e]at hK;exact .inl ⟨false,rfl,hK c0 c1 c2 c3 c4 (fun _ _ _=>rfl) fun h=>absurd rfl h⟩
  ·refine⟨(),trivial,?_⟩;exact leA
 (repeat' ((conv=>whnf);first|(with_reducible refine aAJ a b (4-k) hf4 zo zo fun st' hs hm=>?_)|refine zG ?_|apply zA|intro h|exact zT));all_goals conv=>whnf
 obtain⟨st,rfl,hcuts⟩:=Vy (fun x hx=>hx.elim (fun h=>hoa x h _ hf4) fun h=>hob x h _ hf4) hs hm;have hstl:(0:Int)+st.length<=iN (4-k)+1:=C9 st 0 zo hcuts.sorted hcuts.range;have hpl:(st++[iN (4-k)+1]).length=st.length+1:=by simp
 refine gM (Nat×Int×Int×Int×Int×Int) (fun g=>⟨1,[(0,Na g.2.1 g.2.2.1 g.2.2.2.1 g.2.2.2.2.1 g.2.2.2.2.2)],[(0,.v (.int .i64 ((4-k:Nat):Int))),(1,iE a),(2,iE b),(3,.fn (.func 156) [] []),(4,.op 0 0),(38,.lst ((st++[iN (4-k)+1]).map mB)),(39,.v (.int .i64 (((st++[iN (4-k)+1]).map mB).length:Nat))),(40,.v (.int .i64 g.1))]⟩)
  (fun g=>g.1<=st.length/\(∀f,f<=4->f+(k+1)<5->N6 g.2.1 g.2.2.1 g.2.2.2.1 g.2.2.2.2.1 g.2.2.2.2.2 f=N6 c0 c1 c2 c3 c4 f)/\∀(j:Nat) y,j<g.1->st[j]? =some y->iM op k a b y=[]) (fun g=>st.length-g.1) (0,c0,c1,c2,c3,c4) ⟨aO _,fun _ _ _=>rfl,fun j y h=>absurd h (bC _)⟩ ?_ ?_
 ·exact leA
 rintro⟨i,e0,e1,e2,e3,e4⟩ ⟨hi,hsame,hno⟩
 simp only at hi hsame hno⊢;have hpi:i<(st++[iN (4-k)+1]).length:=by omega
 rcases aC i st.length with hil|hil
 ·obtain⟨x,hx⟩:=gex hil;have hxr:=hcuts.range x (aI hx);have hx':(st++[iN (4-k)+1])[i]? =some x:=by rw[bE hil];exact hx
  have l1:=sY (4-k) x a;have l2:=sY (4-k) x b;have hno2:iM op k a b x=[]->∀(j:Nat) y,j<i+1->st[j]? =some y->iM op k a b y=[]:=fun he j y hj hy=>by
   rcases aC j i with h1|h1
   ·exact hno j y h1 hy
   ·rw[show j=i by omega,hx]at hy;cases hy;exact he
  have hcov1:∀{K:KT},K (iE (atF (4-k) x a)) []->AC 290 [iE a,.v (.int .i64 ((4-k:Nat):Int)),.v (.int .u32 x)] [] K:=fun h=>Gg a (4-k) hf4 x zo h;have hcov2:∀{K:KT},K (iE (atF (4-k) x b)) []->AC 290 [iE b,.v (.int .i64 ((4-k:Nat):Int)),.v (.int .u32 x)] [] K:=fun h=>Gg b (4-k) hf4 x zo h;have hcall:∀(g0 g1 g2 g3 g4:Int) {K:KT},E7 k (iM op k a b x) g0 g1 g2 g3 g4 K->AC 255 [.v (.int .i64 (((4-k:Nat):Int)+1)),iE (atF (4-k) x a),iE (atF (4-k) x b),.fn (.func 156) [] [],.op 0 0] [Na g0 g1 g2 g3 g4] K:=fun g0 g1 g2 g3 g4 {K} h=>hIH _ _ g0 g1 g2 g3 g4 (Ov hoa) (Ov hob) zo zo h;have hlows:=Yh (op:=op) (a:=a) (b:=b) hk hcuts hx;clear hIH hm hs hpl;generalize iM op k a b x=rest at*;obtain⟨kk,hkk⟩:∃kk,k=kk:=⟨k,rfl⟩
  have hlowk:rest≠[]->(iX op (kk+1) a b≠[]/\Om (iX op (kk+1) a b) (4-kk)=x/\∀f,f<=4->f≠4-kk->Om (iX op (kk+1) a b) f=Om rest f):=fun h=>by rw[<-hkk];exact hlows h hno
  have hKk:E7 (kk+1) (iX op (kk+1) a b) c0 c1 c2 c3 c4 K:=by rw[<-hkk];exact hK
  obtain rfl|rfl|rfl|rfl|rfl:k=0\/k=1\/k=2\/k=3\/k=4:=by omega
  all_goals
   (repeat' ((conv=>whnf);first|(with_reducible first|refine hZ hpi ?_|refine hU hx' ?_|refine hTop ?_)|(refine kP zd ?_)|(with_reducible first|refine hcov1 ?_|refine hcov2 ?_)|(refine hcall _ _ _ _ _ ?_)|refine zG ?_|apply zA|intro h|exact zT));all_goals conv=>whnf
   (all_goals rename_i d0 d1 d2 d3 d4 hd1 hd2);(repeat' ((conv=>whnf);first|refine zG ?_|apply zA|intro h|exact zT));all_goals conv=>whnf
   ·have hre:rest=[]:=fB.1 h;refine⟨(i+1,d0,d1,d2,d3,d4),⟨hil,fun f h1 h2=>?_,hno2 hre⟩,by simp only;omega,?_⟩
    ·simp only;have h5:=hd1 f h1 zo;have h6:=hsame f h1 h2;obtain rfl|rfl|rfl|rfl|rfl:f=0\/f=1\/f=2\/f=3\/f=4:=by omega
     all_goals first|omega|(simp only[N6]at h5 h6⊢;omega)
    ·simp only;rw[aN,aL];exact leA
   ·have hre:rest≠[]:=fun e=>by rw[e]at h;cases h
    obtain⟨n1,n2,n3⟩:=hlowk hre;have hb1:(iX op (kk+1) a b).isEmpty=false:=by
     cases hc:iX op (kk+1) a b with
     |nil=>exact absurd hc n1
     |cons=>rfl
    have hfin:=hKk d0 d1 d2 d3 d4 (fun f h1 h2=>by
     have h5:=hd1 f h1 zo;have h6:=hsame f h1 zo;obtain rfl|rfl|rfl|rfl|rfl:f=0\/f=1\/f=2\/f=3\/f=4:=by omega
     all_goals first|omega|(simp only[N6]at h5 h6⊢;omega)) (fun _ f h1 h2=>by
     rcases aC (f+kk) 5 with h3|h3
     ·have hf:f=4-kk:=by omega
      rw[hf,n2,hd1 _ zo zo];subst hkk;rfl
     ·rw[n3 f h1 zo,hd2 hre f h1 zo])
    rw[hb1]at hfin;exact .inl ⟨true,rfl,hfin⟩
 ·have hie:i=st.length:=by omega
  have hx':(st++[iN (4-k)+1])[i]? =some (iN (4-k)+1):=by rw[hie];simp
  have hnil:iX op (k+1) a b=[]:=by
   have inv:=oB op k a b hcuts;rw[Ih op k a b hcuts,Lj inv.full,<-wS (aK st.length)];exact Jg _ fun j y hj hy=>hno j y zo hy
  rw[hnil]at hK;(repeat' ((conv=>whnf);first|(with_reducible first|refine hZ hpi ?_|refine hU hx' ?_|refine hTop ?_)|refine zG ?_|apply zA|intro h|exact zT));all_goals conv=>whnf
  exact .inl ⟨false,rfl,hK e0 e1 e2 e3 e4 (fun f h1 h2=>hsame f h1 h2) fun h=>absurd rfl h⟩
theorem aJz(fn:FuncId)(hfn:fn=156)(op:Bool->Bool->Bool)(hop:Opf fn op):∀(k:Nat),k<=5->∀(a b:List Bx) (c0 c1 c2 c3 c4:Int) {K:KT},okL a->okL b->a.length<1000000000->b.length<1000000000->E7 k (iX op k a b) c0 c1 c2 c3 c4 K->
  AC 255 [.v (.int .i64 ((5-k:Nat):Int)),iE a,iE b,.fn (.func fn) [] [],.op 0 0] [Na c0 c1 c2 c3 c4] K
 |0,_,a,b,c0,c1,c2,c3,c4,K,hoa,hob,ha,hb,hK=>by
  have hk:K (.sb (op (!a.isEmpty) (!b.isEmpty))) [Na c0 c1 c2 c3 c4]:=by
   have:=hK c0 c1 c2 c3 c4 (fun _ _ _=>rfl) (fun _ f h1 h2=>by omega);rw[iX]at this;cases hc:op (!a.isEmpty) (!b.isEmpty)<;>rw[hc]at this<;>exact this
  subst hfn;refine gP (aDj rfl rfl ?_);(repeat' ((conv=>whnf);first|(with_reducible refine hop.ap _ _ ?_)|refine zG ?_|apply zA|intro h|exact zT));all_goals conv=>whnf
  rw[oQ,oQ];exact .inr ⟨_,rfl,hk⟩
 |k+1,hk,a,b,c0,c1,c2,c3,c4,K,hoa,hob,ha,hb,hK=>by
  rw[show 5-(k+1)=4-k by omega];refine Ub fn hfn op hop k zo (fun a b c0 c1 c2 c3 c4 K h1 h2 h3 h4 h5=>?_) a b c0 c1 c2 c3 c4 hoa hob ha hb hK;rw[show((4-k:Nat):Int)+1=((5-k:Nat):Int) by omega];exact aJz fn hfn op hop k zo a b c0 c1 c2 c3 c4 h1 h2 h3 h4 h5
theorem aBW{xs:List AV}{i:Nat}{x:AV}{K:AV->Prop}(h:i<xs.length)(hk:K x):Ix (xs.set i x) i K:=
 gV (by rw[gE h]) hk
theorem aEO(l:List Bx)(f:Nat)(hf:f<=4)(hl:l.length<1000000000){K:KT}(hK:K (iE (l.map (iW (4-f)))) []):AC 253 [.v (.int .i64 f),iE l] [] K:=by
 refine gQ (aDk rfl rfl ?_);(repeat' ((conv=>whnf);first|refine zG ?_|apply zA|intro h|exact zT));all_goals conv=>whnf
 refine V0 l hl (fun e=>?_) ?_
 ·subst e;(repeat' ((conv=>whnf);first|refine zG ?_|apply zA|intro h|exact zT));all_goals conv=>whnf
  refine Lp.times 1 ?_;(repeat' ((conv=>whnf);first|refine zG ?_|apply zA|intro h|exact zT));all_goals conv=>whnf
  exact⟨_,gS,hK⟩
 ·(repeat' ((conv=>whnf);first|refine zG ?_|apply zA|intro h|exact zT));all_goals conv=>whnf
  refine gM Nat (fun i=>⟨1,[(0,.arr 10 (((l.take i).map (iW (4-f))++l.drop i).map iY))],[(0,.v (.int .i64 f)),(5,.os 0 10 0 l.length),(11,.v (.int .i64 l.length)),(12,.v (.int .i64 i))]⟩) (fun i=>i<=l.length) (fun i=>l.length-i) 0 (aO _) ?_ ?_
  ·rw[cP,cA];exact leA
  intro i hi;rcases aC i l.length with hil|hil
  ·obtain⟨x,hx⟩:=gex hil;have hd:l.drop i=x::l.drop (i+1):=by
    rw[aE hil]at hx;rw[<-bG hx,<-bB hil]
   have htl:((l.take i).map (iW (4-f))).length=i:=by rw[aA,aZ];omega
   have hget:((l.take i).map (iW (4-f))++l.drop i)[0+i]? =some x:=by
    rw[bD,bH zo,htl,dT,hd];rfl
   have hset:∀y:Bx,(((l.take i).map (iW (4-f))++l.drop i).map iY).set (0+i) (iY y)=((l.take i).map (iW (4-f))++y::l.drop (i+1)).map iY:=fun y=>by
    rw[bD,<-eW,dZ _ _ zo,htl,dT,hd];rfl
   have hnext:(l.take (i+1)).map (iW (4-f))++l.drop (i+1)=(l.take i).map (iW (4-f))++iW (4-f) x::l.drop (i+1):=by
    rw[bF,hx,aQ,cV];rfl
   have hlen:0+i<(((l.take i).map (iW (4-f))++l.drop i).map iY).length:=by
    rw[aA,aD,htl,cQ];omega
   generalize hA:(l.take i).map (iW (4-f))++l.drop i=A at*;rcases f with _|_|_|_|_|f
   case succ.succ.succ.succ.succ=>omega
   all_goals
    (repeat' ((conv=>whnf);first|(with_reducible first|refine Lp.times 7 ?_|refine iA hil ?_|refine hU hget ?_|refine aBW (by simpa only[dB]using hlen) ?_)|(refine kP zd ?_)|refine zG ?_|apply zA|intro h|exact zT));all_goals conv=>whnf
    refine⟨i+1,hil,by omega,?_⟩;try simp only[List.set_set]
    rw[hnext,<-hset,aN,aL];exact leA
  ·rw[aU hil,bV hil,bI];(repeat' ((conv=>whnf);first|(with_reducible refine iP (by rw[aA,aA]) ?_)|refine zG ?_|apply zA|intro h|exact zT));all_goals conv=>whnf
   exact⟨_,gO,hK⟩
theorem aUA{l:List Bx}:rQ l=(if l.length<=4096 then l else []):=by
 unfold rQ;split<;>split<;>first|rfl|omega
theorem aAI(fn:FuncId)(op:Bool->Bool->Bool)(hop:Opf fn op)(a b:List Bx)(hoa:okL a)(hob:okL b)(ha:a.length<1000000000)(hb:b.length<1000000000){K:KT}(hK:K (.tup [iE (rQ (iX op 5 a b)),.v (.int .i64 (uH (iX op 5 a b)))]) []):
  AC 150 [iE a,iE b,.fn (.func fn) [] []] [] K:=by
 have hcan:∀{K:KT},K (.tup [iE (if(iX op 5 a b).length<=4096 then iX op 5 a b else []),.sb (decide ((iX op 5 a b).length<=4096))]) []->AC 231 [.v (.int .i64 0),iE a,iE b,.fn (.func fn) [] [],.v (.int .i64 4096)] [] K:=
  fun h=>aJv fn op hop 4096 zd zd 5 (aK _) a b hoa hob ha hb h
 refine gQ (aIj rfl rfl ?_);unfold uH at hK;rw[aUA]at hK;(repeat' ((conv=>whnf);first|(with_reducible refine hcan ?_)|refine zG ?_|apply zA|intro h|exact zT));all_goals conv=>whnf
 ·rw[aF (c:=4096<_) zo]at hK;exact⟨_,gO,hK⟩
 ·rw[aF h,aH zo]at hK;exact⟨_,gR gS gO,hK⟩
theorem aAR(k:Nat)(hk:k<=4)(hIH:∀(l:List Bx) {K:KT},l.length<1000000000->l≠[]->K (.sb (oA k l)) []->AC 188 [.v (.int .i64 (((4-k:Nat):Int)+1)),iE l] [] K)
  (l:List Bx)(hl:l.length<1000000000){K:KT}(hK:K (.sb (oA (k+1) l)) []):AC 188 [.v (.int .i64 ((4-k:Nat):Int)),iE l] [] K:=by
 have hf4:4-k<=4:=by omega
 have hP:=vJ (4-k) l;have hfl:=yJ (4-k) l;have hal:∀{a b:List Bx},sW (4-k+1) a b=decide (a.map (iW k)=b.map (iW k)):=fun {a b}=>by
  rw[show 4-k+1=5-k by omega,bK,aM];exact E8
 rw[oA]at hK;generalize sQ (4-k) l=ps at*;have hflen:ps.flatten.length=l.length:=by rw[hfl]
 refine gP (aDh rfl rfl ?_);(repeat' ((conv=>whnf);first|refine zG ?_|apply zA|intro h|exact zT));all_goals conv=>whnf
 refine gM (Nat×Int×Int×AV) (fun r=>⟨1,[(0,.box [.v (.int .u32 r.2.1),.v (.int .u32 r.2.2.1),r.2.2.2])],[(0,.v (.int .i64 ((4-k:Nat):Int))),(1,iE (ps.drop r.1).flatten),(5,.op 0 0)]⟩)
  (fun r=>r.1<=ps.length/\sU (oA k) (4-k) [] ps=sU (oA k) (4-k) (jA ps r.1) (ps.drop r.1)/\((jA ps r.1=[]/\r.2.2.2=.nils)\/(jA ps r.1≠[]/\r.2=((jX (4-k) (jA ps r.1)).lo,(jX (4-k) (jA ps r.1)).hi,iE ((jA ps r.1).map (iW k)))/\(jA ps r.1).length<=l.length))) (fun r=>ps.length-r.1) (0,0,0,.nils) ⟨aO _,by rw[cA];rfl,.inl ⟨rfl,rfl⟩⟩ ?_ ?_
 ·rw[cA,hfl];exact leA
 rintro⟨r,lo,hi,y⟩ ⟨hr,hchk,hlast⟩
 simp only at hr hchk hlast⊢;have hsufl:(ps.drop r).flatten.length<=l.length:=by
  rw[<-hflen];have:ps.flatten=(ps.take r).flatten++(ps.drop r).flatten:=by rw[<-List.flatten_append,cN]
  rw[this,aD];omega
 rcases aC r ps.length with hrl|hrl
 ·obtain⟨p,hp⟩:=gex hrl;obtain⟨hp1,hp2⟩:=hP.mem p (aI hp);have hplen:0<p.length:=dH.2 hp1;have hdrop:ps.drop r=p::ps.drop (r+1):=by
   rw[aE hrl]at hp;rw[<-bG hp,<-bB hrl]
  obtain⟨more,hmore⟩:∃more,(ps.drop (r+1)).flatten=more:=⟨_,rfl⟩
  have hsuf:(ps.drop r).flatten=p++more:=by rw[hdrop,eL,hmore]
  rw[hsuf]at hsufl⊢;rw[aD]at hsufl;obtain⟨x0,hx0⟩:=gex hplen;have hlx0:(p++more)[0]? =some x0:=by rw[bE hplen];exact hx0
  have hx0r:x0.get (4-k)=jX (4-k) p:=hp2 x0 (aI hx0);have hends:more=[]\/∃y,(p++more)[p.length]? =some y/\y.get (4-k)≠x0.get (4-k):=by
   rcases aC (r+1) ps.length with hn|hn
   ·obtain⟨q,hq⟩:∃q,ps[r+1]? =some q:=⟨_,aE hn⟩
    obtain⟨hq1,hq2⟩:=hP.mem q (aI hq);obtain⟨y,hy⟩:∃y,q[0]? =some y:=⟨_,aE (dH.2 hq1)⟩
    refine .inr ⟨y,?_,?_⟩
    ·have hd2:ps.drop (r+1)=q::ps.drop (r+2):=by
      rw[aE hn]at hq;rw[<-bG hq,<-bB hn]
     rw[<-hmore,hd2,eL,bH (aK _),dT,bE (dH.2 hq1)];exact hy
    ·rw[hq2 y (aI hy),hx0r];exact(hP.next hp hq).symm
   ·left;rw[<-hmore,bV zo];rfl
  have hpl0:0<(p++more).length:=by rw[aD];omega
  have hstep:sU (oA k) (4-k) [] ps=(!wV (4-k) (jA ps r) p&&oA k p&&sU (oA k) (4-k) p (ps.drop (r+1))):=by rw[hchk,hdrop,sU]
  have hlast1:jA ps (r+1)=p:=by rw[jA,hp];rfl
  have hrests:∀{K:KT},K (iE (p.map (iW k))) []->AC 253 [.v (.int .i64 ((4-k:Nat):Int)),iE p] [] K:=fun h=>aEO p (4-k) hf4 zo (by rw[show 4-(4-k)=k by omega];exact h);have hsl:∀{K:List AV->Prop},K (p.map iY)->Sl ((p++more).map iY) 0 (p.length-0) K:=fun {K} h=>by
   refine mQ (by rw[aD];omega) ?_;rw[cA,eN,fF rfl];exact h
  have hx0l:=(x0.get (4-k)).l1;have hx0l0:=(x0.get (4-k)).l0;have hcan:∀{K:KT},K (.sb (oA k p)) []->AC 188 [.v (.int .i64 (((4-k:Nat):Int)+1)),iE p] [] K:=fun h=>hIH p zo hp1 h;have hsl2:∀{K:List AV->Prop},K (more.map iY)->Sl ((p++more).map iY) p.length ((p++more).length-p.length) K:=fun {K} h=>by
   refine mQ (by rw[aD];omega) ?_;rw[List.drop_left' rfl,aU (by rw[aD];omega)];exact h
  have hml:(more.map iY).length=more.length:=aA ..;have hjoin:∀(z:Bool),wV (4-k) (jA ps r) p=z->sU (oA k) (4-k) [] ps=(!z&&oA k p&&sU (oA k) (4-k) p (ps.drop (r+1))):=fun z h=>by rw[hstep,h]
  rcases hlast with⟨hl0,rfl⟩|⟨hl0,heq,hll⟩
  ·(repeat' ((conv=>whnf);first|refine zG ?_|apply zA|intro h|exact zT));all_goals conv=>whnf
   refine Jn.at ⟨1,[(0,.box [.v (.int .u32 lo),.v (.int .u32 hi),.nils])],[(0,.v (.int .i64 ((4-k:Nat):Int))),(1,iE (p++more)),(5,.op 0 0),(6,.v (.int .i64 p.length))]⟩ ?_ ?_
   ·(repeat' ((conv=>whnf);first|refine zG ?_|apply zA|intro h|exact zT));all_goals conv=>whnf
    refine gM Nat (fun j=>⟨1,[(0,.box [.v (.int .u32 lo),.v (.int .u32 hi),.nils])],[(0,.v (.int .i64 ((4-k:Nat):Int))),(1,iE (p++more)),(5,.op 0 0),(6,.v (.int .i64 j))]⟩) (fun j=>1<=j/\j<=p.length) (fun j=>p.length-j) 1 ⟨aK _,hplen⟩ ?_ ?_
    ·exact leA
    intro j ⟨hj0,hj⟩;clear hchk hK hIH hP hrests hsl hstep;rcases aC j p.length with hjl|hjl
    ·obtain⟨x,hx⟩:=gex hjl;have hlx:(p++more)[j]? =some x:=by rw[bE hjl];exact hx
     have hxr:x.get (4-k)=x0.get (4-k):=by rw[hp2 x (aI hx),hx0r]
     have hjl2:j<(p++more).length:=by rw[aD];omega
     obtain rfl|rfl|rfl|rfl|rfl:k=0\/k=1\/k=2\/k=3\/k=4:=by omega
     all_goals
      (repeat' ((conv=>whnf);first|(with_reducible first|refine hZ hjl2 ?_|refine gU 0 rfl (by rw[aA];exact hpl0) ?_|refine hU hlx ?_|refine hU hlx0 ?_)|(refine kP zd ?_)|(with_reducible refine yT ?_)|refine zG ?_|apply zA|intro h|exact zT));all_goals conv=>whnf
      all_goals first
       |(exfalso;exact h hxr)
       |(refine⟨j+1,by omega,by omega,?_⟩
         rw[aN,aL];(exact leA))
    ·have hjp:j=p.length:=by omega
     subst hjp;rcases hends with hend|⟨w,hlw,hne⟩
     ·subst hend;rw[bI]at*;(repeat' ((conv=>whnf);first|refine zG ?_|apply zA|intro h|exact zT));all_goals conv=>whnf
      refine⟨(),trivial,?_⟩;exact leA
     ·have hlwl:p.length<(p++more).length:=(aP.1 hlw).1;obtain rfl|rfl|rfl|rfl|rfl:k=0\/k=1\/k=2\/k=3\/k=4:=by omega
      all_goals
       (repeat' ((conv=>whnf);first|(with_reducible first|refine hZ hlwl ?_|refine gU 0 rfl (by rw[aA];exact hpl0) ?_|refine hU hlw ?_|refine hU hlx0 ?_)|(refine kP zd ?_)|(with_reducible refine yT ?_)|refine zG ?_|apply zA|intro h|exact zT));all_goals conv=>whnf
       all_goals first
        |(exfalso;exact hne h)
        |(refine⟨(),trivial,?_⟩
          (exact leA))
   refine Jn.at ⟨2,[(1,.box [.v (.int .u32 (x0.get (4-k)).lo),.v (.int .u32 (x0.get (4-k)).hi),iE (p.map (iW k))]),(0,.box [.v (.int .u32 lo),.v (.int .u32 hi),.nils])],[(0,.v (.int .i64 ((4-k:Nat):Int))),(1,iE (p++more)),(5,.op 0 0),(6,.v (.int .i64 p.length)),(7,.op 1 0)]⟩ ?_ ?_
   ·clear hchk hK hIH hP hstep;obtain rfl|rfl|rfl|rfl|rfl:k=0\/k=1\/k=2\/k=3\/k=4:=by omega
    all_goals
     (repeat' ((conv=>whnf);first|(with_reducible first|refine gU 0 rfl (by rw[aA];exact hpl0) ?_|refine hU hlx0 ?_)|(refine kP zd ?_)|(with_reducible first|refine gZ 0 p.length rfl rfl zo (by rw[aA,aD];omega) ?_|refine hsl ?_|refine hrests ?_)|refine zG ?_|apply zA|intro h|exact zT));all_goals conv=>whnf
     all_goals
      refine⟨(),trivial,?_⟩;exact leA
   have hj:=hjoin false (by rw[hl0];rfl);have hx0s:=hx0r.symm;clear hx0r hp2;(repeat' ((conv=>whnf);first|(with_reducible first|refine hsl ?_|refine hcan ?_|refine hsl2 ?_|refine gZ 0 p.length rfl rfl zo (by rw[aA,aD];omega) ?_|refine gZ p.length (p++more).length rfl (by rw[aA]) (by rw[aD];omega) (by rw[aA];exact aK _) ?_)|refine zG ?_|apply zA|intro h|exact zT));all_goals conv=>whnf
   all_goals first
    |exact iL hK (by rw[hj];simp[*])
    |(refine⟨(r+1,(x0.get (4-k)).lo,(x0.get (4-k)).hi,iE (p.map (iW k))),⟨hrl,?_,.inr ⟨?_,?_,?_⟩⟩,?_,?_⟩
      ·simp only;rw[hlast1,hj];simp[*]<;>(intros;omega)
      ·simp only;rw[hlast1];exact hp1
      ·simp only;rw[hlast1,hx0s]
      ·simp only;rw[hlast1];omega
      ·simp only;omega
      ·simp only;rw[hmore];(exact leA))
  ·simp only[Prod.mk.injEq]at heq;obtain⟨rfl,rfl,rfl⟩:=heq;(repeat' ((conv=>whnf);first|refine zG ?_|apply zA|intro h|exact zT));all_goals conv=>whnf
   refine Jn.at ⟨1,[(0,.box [.v (.int .u32 (jX (4-k) (jA ps r)).lo),.v (.int .u32 (jX (4-k) (jA ps r)).hi),iE ((jA ps r).map (iW k))])],[(0,.v (.int .i64 ((4-k:Nat):Int))),(1,iE (p++more)),(5,.op 0 0),(6,.v (.int .i64 p.length))]⟩ ?_ ?_
   ·(repeat' ((conv=>whnf);first|refine zG ?_|apply zA|intro h|exact zT));all_goals conv=>whnf
    refine gM Nat (fun j=>⟨1,[(0,.box [.v (.int .u32 (jX (4-k) (jA ps r)).lo),.v (.int .u32 (jX (4-k) (jA ps r)).hi),iE ((jA ps r).map (iW k))])],[(0,.v (.int .i64 ((4-k:Nat):Int))),(1,iE (p++more)),(5,.op 0 0),(6,.v (.int .i64 j))]⟩) (fun j=>1<=j/\j<=p.length) (fun j=>p.length-j) 1 ⟨aK _,hplen⟩ ?_ ?_
    ·exact leA
    intro j ⟨hj0,hj⟩;clear hchk hK hIH hP hrests hsl hstep;rcases aC j p.length with hjl|hjl
    ·obtain⟨x,hx⟩:=gex hjl;have hlx:(p++more)[j]? =some x:=by rw[bE hjl];exact hx
     have hxr:x.get (4-k)=x0.get (4-k):=by rw[hp2 x (aI hx),hx0r]
     have hjl2:j<(p++more).length:=by rw[aD];omega
     obtain rfl|rfl|rfl|rfl|rfl:k=0\/k=1\/k=2\/k=3\/k=4:=by omega
     all_goals
      (repeat' ((conv=>whnf);first|(with_reducible first|refine hZ hjl2 ?_|refine gU 0 rfl (by rw[aA];exact hpl0) ?_|refine hU hlx ?_|refine hU hlx0 ?_)|(refine kP zd ?_)|(with_reducible refine yT ?_)|refine zG ?_|apply zA|intro h|exact zT));all_goals conv=>whnf
      all_goals first
       |(exfalso;exact h hxr)
       |(refine⟨j+1,by omega,by omega,?_⟩
         rw[aN,aL];(exact leA))
    ·have hjp:j=p.length:=by omega
     subst hjp;rcases hends with hend|⟨w,hlw,hne⟩
     ·subst hend;rw[bI]at*;(repeat' ((conv=>whnf);first|refine zG ?_|apply zA|intro h|exact zT));all_goals conv=>whnf
      refine⟨(),trivial,?_⟩;exact leA
     ·have hlwl:p.length<(p++more).length:=(aP.1 hlw).1;obtain rfl|rfl|rfl|rfl|rfl:k=0\/k=1\/k=2\/k=3\/k=4:=by omega
      all_goals
       (repeat' ((conv=>whnf);first|(with_reducible first|refine hZ hlwl ?_|refine gU 0 rfl (by rw[aA];exact hpl0) ?_|refine hU hlw ?_|refine hU hlx0 ?_)|(refine kP zd ?_)|(with_reducible refine yT ?_)|refine zG ?_|apply zA|intro h|exact zT));all_goals conv=>whnf
       all_goals first
        |(exfalso;exact hne h)
        |(refine⟨(),trivial,?_⟩
          (exact leA))
   refine Jn.at ⟨2,[(1,.box [.v (.int .u32 (x0.get (4-k)).lo),.v (.int .u32 (x0.get (4-k)).hi),iE (p.map (iW k))]),(0,.box [.v (.int .u32 (jX (4-k) (jA ps r)).lo),.v (.int .u32 (jX (4-k) (jA ps r)).hi),iE ((jA ps r).map (iW k))])],[(0,.v (.int .i64 ((4-k:Nat):Int))),(1,iE (p++more)),(5,.op 0 0),(6,.v (.int .i64 p.length)),(7,.op 1 0)]⟩ ?_ ?_
   ·clear hchk hK hIH hP hstep;obtain rfl|rfl|rfl|rfl|rfl:k=0\/k=1\/k=2\/k=3\/k=4:=by omega
    all_goals
     (repeat' ((conv=>whnf);first|(with_reducible first|refine gU 0 rfl (by rw[aA];exact hpl0) ?_|refine hU hlx0 ?_)|(refine kP zd ?_)|(with_reducible first|refine gZ 0 p.length rfl rfl zo (by rw[aA,aD];omega) ?_|refine hsl ?_|refine hrests ?_)|refine zG ?_|apply zA|intro h|exact zT));all_goals conv=>whnf
     all_goals
      refine⟨(),trivial,?_⟩;exact leA
   have h1:=(jX (4-k) (jA ps r)).h1;have h0:=(jX (4-k) (jA ps r)).h0;have hlen:0<(((jA ps r).map (iW k)).map iY).length:=by rw[aA,aA];exact dH.2 hl0
   have hjb:wV (4-k) (jA ps r) p=(decide ((x0.get (4-k)).lo<=(jX (4-k) (jA ps r)).hi)||(decide ((x0.get (4-k)).lo=(jX (4-k) (jA ps r)).hi+1)&&decide (p.map (iW k)=(jA ps r).map (iW k)))):=by
    rw[wV,hal,hx0r];have:(jA ps r).isEmpty=false:=by cases hq:jA ps r with
     |nil=>exact absurd hq hl0
     |cons=>rfl
    rw[this,decide_eq_decide.2 (eq_comm (a:=(jA ps r).map (iW k)))];rfl
   have hj:=hjoin _ hjb;have hx0s:=hx0r.symm;clear hjoin hjb hstep hx0r hp2;(repeat' ((conv=>whnf);first|(with_reducible first|refine hsl ?_|refine hcan ?_|refine hsl2 ?_|refine gZ 0 p.length rfl rfl zo (by rw[aA,aD];omega) ?_|refine gZ p.length (p++more).length rfl (by rw[aA]) (by rw[aD];omega) (by rw[aA];exact aK _) ?_|refine aJx _ _ (by rw[aA];omega) (by rw[aA];omega) ?_)|refine zG ?_|apply zA|intro h|exact zT));all_goals conv=>whnf
   all_goals first
    |exact iL hK (by rw[hj];simp[*])
    |(refine⟨(r+1,(x0.get (4-k)).lo,(x0.get (4-k)).hi,iE (p.map (iW k))),⟨hrl,?_,.inr ⟨?_,?_,?_⟩⟩,?_,?_⟩
      ·simp only;rw[hlast1,hj];simp[*]<;>(intros;omega)
      ·simp only;rw[hlast1];exact hp1
      ·simp only;rw[hlast1,hx0s]
      ·simp only;rw[hlast1];omega
      ·simp only;omega
      ·simp only;rw[hmore];(exact leA))
 ·have e:ps.drop r=[]:=bV hrl;rw[e,sU]at hchk;rw[e,List.flatten_nil];rcases hlast with⟨hl0,rfl⟩|⟨hl0,heq,hll⟩
  ·(repeat' ((conv=>whnf);first|refine zG ?_|apply zA|intro h|exact zT));all_goals conv=>whnf
   exact jU hK hchk
  ·simp only[Prod.mk.injEq]at heq;obtain⟨rfl,rfl,rfl⟩:=heq;(repeat' ((conv=>whnf);first|refine zG ?_|apply zA|intro h|exact zT));all_goals conv=>whnf
   exact jU hK hchk
theorem aJw:∀(k:Nat),k<=5->∀(l:List Bx) {K:KT},l.length<1000000000->(k=0->l≠[])->K (.sb (oA k l)) []->AC 188 [.v (.int .i64 ((5-k:Nat):Int)),iE l] [] K
 |0,_,l,K,hl,hne,hK=>by
  refine gP (aDh rfl rfl ?_);(repeat' ((conv=>whnf);first|refine zG ?_|apply zA|intro h|exact zT));all_goals conv=>whnf
  refine jP hK ?_;have:=dH.2 (hne rfl);rw[oA,aA,bK,beq_iff_eq,aM];omega
 |k+1,hk,l,K,hl,hne,hK=>by
  rw[show 5-(k+1)=4-k by omega];refine aAR k zo (fun l K h1 h2 h3=>?_) l hl hK;rw[show((4-k:Nat):Int)+1=((5-k:Nat):Int) by omega];exact aJw k zo l h1 (fun _=>h2) h3
theorem Nz(l:List Bx)(hl:l.length<1000000000){K:KT}(hK:K (.sb (kN l)) []):AC 105 [iE l] [] K:=by
 have hc:∀{K:KT},K (.sb (oA 5 l)) []->AC 188 [.v (.int .i64 0),iE l] [] K:=fun h=>aJw 5 (aK _) l hl zo h;refine gP (aIr rfl rfl ?_);unfold kN at hK;(repeat' ((conv=>whnf);first|(with_reducible first|refine V1 l zo ?_|refine hc ?_)|refine zG ?_|apply zA|intro h|exact zT));all_goals conv=>whnf
 all_goals
  simp only[aA]at*;first
   |exact jP hK (by rw[decide_eq_true zo,decide_eq_true zo];rfl)
   |exact iL hK (by rw[decide_eq_true zo,decide_eq_false zo];rfl)
   |exact iL hK (by rw[decide_eq_false zo];rfl)
end Go.Proofs.YtnomkooikbhgmaaGreatDoor
