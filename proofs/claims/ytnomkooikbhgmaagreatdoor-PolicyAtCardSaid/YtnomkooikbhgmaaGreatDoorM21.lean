/- Lemmas. -/
import Derived.Test.YtnomkooikbhgmaaGreatDoorM20
set_option linter.unusedVariables false
set_option linter.unusedSimpArgs false
set_option maxRecDepth 100000
set_option maxHeartbeats 4000000
noncomputable section
namespace Go.Proofs.YtnomkooikbhgmaaGreatDoor
open Go Go.Vm
def compS(acc:List Int)(x:Int):List Int:=if acc.getLast?=some x then acc else acc++[x]
def comp(l:List Int):List Int:=l.foldl compS []
theorem comp_succ{l:List Int}{r:Nat}{x:Int}(h:l[r]? =some x):comp (l.take (r+1))=compS (comp (l.take r)) x:=by
 simp[comp,bI,h]
theorem comp_last:∀(l:List Int) {r:Nat} {x:Int},l[r]? =some x->(comp (l.take (r+1))).getLast?=some x:=by
 intro l r x h;rw[comp_succ h,compS];split
 ·assumption
 ·simp
theorem comp_next{l:List Int}{r:Nat}{x y:Int}(h:l[r]? =some x)(h1:l[r+1]? =some y):comp (l.take (r+2))=if x=y then comp (l.take (r+1))else comp (l.take (r+1))++[y]:=by
 rw[comp_succ h1,compS,comp_last l h];simp only[bQ]
theorem csComp(l:List Int)(hl:l.length<1000000000000){K:KT}(hK:∀zs,K (.os 0 1 0 (comp l).length) [.arr 1 ((comp l).map encZ++zs)]):
  AC 309 [.os 0 1 0 l.length] [.arr 1 (l.map encZ)] K:=by
 refine ofsComp rfl rfl ?_;rcases aF l.length 2 with h2|h2
 ·have e:comp l=l:=by
   rcases l with _|⟨x,_|⟨y,l⟩⟩
   ·rfl
   ·rfl
   ·simp only[aB]at h2;omega
  have:=hK [];rw[e,bF]at this;(repeat' ((conv=>whnf);first|refine zG ?_|apply zA|intro h|exact zT));all_goals conv=>whnf
  exact this
 ·(repeat' ((conv=>whnf);first|refine zG ?_|apply zA|intro h|exact zT));all_goals conv=>whnf
  refine gL Nat (fun k=>⟨1,[(0,.arr 1 (l.map encZ))],[(0,.os 0 1 0 l.length),(3,.v (.int .i64 k))]⟩) (fun k=>1<=k/\k<=l.length/\comp (l.take k)=l.take k) (fun k=>l.length-k) 1 ⟨aM _,by omega,?_⟩ ?_ ?_
  ·rcases l with _|⟨x,l⟩
   ·exact absurd h2 zx
   ·rfl
  ·exact leA
  intro k ⟨hk1,hk2,hk3⟩;rcases aF k l.length with hkl|hkl
  ·obtain⟨m,rfl⟩:∃m,k=m+1:=⟨k-1,by omega⟩
   obtain⟨x,hx⟩:∃x,l[m]? =some x:=⟨_,aE zo⟩
   obtain⟨y,hy⟩:∃y,l[m+1]? =some y:=⟨_,aE hkl⟩
   have hx0:l[0+m]? =some x:=by rw[bK];exact hx
   have hy0:l[0+(m+1)]? =some y:=by rw[bK];exact hy
   have hn:=comp_next hx hy;(repeat' ((conv=>whnf);first|(with_reducible refine hZ hkl ?_)|(refine gT m zo zo ?_)|(with_reducible first|refine hJ hx0 ?_|refine hJ hy0 ?_)|(refine gY (m+1) l.length rfl rfl zo (aM _) ?_)|refine zG ?_|apply zA|intro h|exact zT));all_goals conv=>whnf
   ·have hxy:x=y:=h.symm;rw[aG hxy,hk3]at hn;refine gL Nat (fun q=>⟨1,[(0,.arr 1 ((comp (l.take (m+2+q))++l.drop (comp (l.take (m+2+q))).length).map encZ))],[(0,.os 0 1 0 l.length),(3,.v (.int .i64 (comp (l.take (m+2+q))).length)),(4,.os 0 1 (0+(m+1)) (l.length-(m+1))),(5,.v (.int .i64 ((q+1:Nat):Int)))]⟩) (fun q=>m+2+q<=l.length/\(comp (l.take (m+2+q))).length<m+2+q) (fun q=>l.length-q) 0 ⟨by omega,by rw[eF,hn,bA];omega⟩ ?_ ?_
    ·have e1:(l.take (m+1)).length=m+1:=by rw[bA];omega
     rw[eF,hn,e1,cO];exact leA
    intro q ⟨hq1,hq2⟩;obtain⟨C,hC⟩:∃C,C=comp (l.take (m+2+q)):=⟨_,rfl⟩
    rw[<-hC]at hq2⊢;rcases aF (m+2+q) l.length with hql|hql
    ·obtain⟨u,hu⟩:∃u,l[m+1+q]? =some u:=⟨_,aE zo⟩
     obtain⟨v,hv⟩:∃v,l[m+1+q+1]? =some v:=⟨_,aE zo⟩
     have hnx:=comp_next hu hv;rw[show m+1+q+2=m+2+(q+1) by omega,show m+1+q+1=m+2+q by omega,<-hC]at hnx;have hget:∀i,C.length<=i->(C++l.drop C.length)[i]? =l[i]? :=fun i hi=>by
      rw[bG hi,cF]
      congr 1;omega
     have hu0:(C++l.drop C.length)[0+(m+1)+q]? =some u:=by rw[bK,hget _ zo];exact hu
     have hv0:(C++l.drop C.length)[0+(m+1)+(q+1)]? =some v:=by rw[bK,hget _ zo];exact hv
     obtain⟨z,hz⟩:∃z,l[C.length]? =some z:=⟨_,aE zo⟩
     have hz0:(C++l.drop C.length)[0+C.length]? =some z:=by rw[bK,hget _ (aM _)];exact hz
     have hCn:C.length<l.length:=by omega
     have hdr:l.drop C.length=z::l.drop (C.length+1):=by
      rw[aE hCn]at hz;rw[<-bE hz,<-bB hCn]
     have hset:((C++l.drop C.length).map encZ).set (0+C.length) (encZ v)=((C++[v])++l.drop (C++[v]).length).map encZ:=by
      rw[bK,<-eU,eB _ _ (aM _),dX,hdr];simp
     (repeat' ((conv=>whnf);first|(refine gT q zo zo ?_)|(refine gT (q+1) zo zo ?_)|(with_reducible first|refine hZ hCn ?_|refine hJ hu0 ?_|refine hJ hv0 ?_|refine hJ hz0 ?_)|refine zG ?_|apply zA|intro h|exact zT));all_goals conv=>whnf
     all_goals first
      |(rw[aD (fun e=>h e.symm)]at hnx
        refine⟨q+1,⟨by omega,by rw[hnx,aC];simp;omega⟩,by omega,?_⟩;rw[hnx,hset,show((C++[v]).length:Int)=(C.length:Int)+1 by simp,show((q+1+1:Nat):Int)=((q+1:Nat):Int)+1 by omega];exact leA)
      |(rw[aG (by first|exact h.symm|exact(Decidable.not_not.1 h).symm)]at hnx
        refine⟨q+1,⟨by omega,by rw[hnx];omega⟩,by omega,?_⟩;rw[hnx,show((q+1+1:Nat):Int)=((q+1:Nat):Int)+1 by omega];(exact leA))
    ·have hCl:C=comp l:=by rw[hC,aY hql]
     have hCn:C.length<=l.length:=by omega
     (repeat' ((conv=>whnf);first|(refine gY C.length l.length rfl rfl hCn (aM _) ?_)|(refine gY 0 C.length rfl rfl (aK _) hCn ?_)|refine zG ?_|apply zA|intro h|exact zT));all_goals conv=>whnf
     have e1:(List.map encZ (C++l.drop C.length)).take (0+C.length)=C.map encZ:=by
      rw[bK,aQ,fZ zx]
     rw[e1,eF,eL,hCl];exact hK _
   ·refine⟨m+2,⟨by omega,by omega,?_⟩,by omega,?_⟩
    ·rw[hn,aD (fun e=>h e.symm),hk3,bI (i:=m+1),hy];rfl
    ·rw[show((m+2:Nat):Int)=((m+1:Nat):Int)+1 by omega];exact leA
  ·have e:comp l=l:=by rw[aY hkl]at hk3;exact hk3
   have:=hK [];rw[e,bF]at this;(repeat' ((conv=>whnf);first|refine zG ?_|apply zA|intro h|exact zT));all_goals conv=>whnf
   exact this
theorem comp_take_mem(l:List Int):∀r,r<=l.length->∀z,z∈comp (l.take r)↔z∈l.take r:=by
 intro r
 induction r with
 |zero=>intro _ z;simp[comp]
 |succ r ih=>
  intro hr z;obtain⟨x,hx⟩:∃x,l[r]? =some x:=⟨_,aE zo⟩
  rw[comp_succ hx,compS,bI,hx];have h:=ih zo z;split
  ·rename_i hl;have:x∈comp (l.take r):=List.mem_of_getLast? hl;simp only[eC,aX,aV,h];constructor
   ·intro h;exact .inl h
   ·rintro(h|rfl)
    ·exact h
    ·exact(ih zo z).1 this
  ·simp[h]
theorem comp_mem{l:List Int}{z:Int}:z∈comp l↔z∈l:=by
 have:=comp_take_mem l l.length (aM _) z
 rwa[dD]at this
theorem comp_take_lt{l:List Int}(h:l.Pairwise (· <= ·)):∀r,r<=l.length->(comp (l.take r)).Pairwise (· < ·):=by
 intro r
 induction r with
 |zero=>intro _;simp[comp]
 |succ r ih=>
  intro hr;obtain⟨x,hx⟩:∃x,l[r]? =some x:=⟨_,aE zo⟩
  rw[comp_succ hx,compS];have h0:=ih zo;split
  ·exact h0
  ·rename_i hl;rw[dK];refine⟨h0,by simp,fun a ha b hb=>?_⟩;rw[aV]at hb;subst hb;have ha':=(comp_take_mem l r zo a).1 ha;have hle:∀c,c∈l.take r->c<=b:=fun c hc=>by
    have h1:(l.take (r+1)).Pairwise (· <= ·):=h.sublist (List.take_sublist _ _);rw[bI,hx]at h1;exact(dK.1 h1).2.2 c hc b zx
   have hne:a≠b:=by
    rintro rfl
    obtain⟨i,g,hg⟩:∃i g,comp (l.take r)=i++[g]:=by
     rcases cQ (comp (l.take r))with h|⟨i,g,h⟩
     ·rw[h]at ha;simp at ha
     ·exact⟨i,g,by rw[h,cR]⟩
    rw[hg]at hl ha h0;simp only[cU,cE,dO,bQ]at hl;have hgl:g<=a:=hle g ((comp_take_mem l r zo g).1 (by rw[hg];simp));rcases aX.1 ha with ha|ha
    ·have:=(dK.1 h0).2.2 a ha g zx;omega
    ·rw[aV]at ha;exact hl ha.symm
   have:=hle a ha';omega
theorem comp_lt{l:List Int}(h:l.Pairwise (· <= ·)):(comp l).Pairwise (· < ·):=by
 have:=comp_take_lt h l.length (aM _)
 rwa[dD]at this
theorem endsB_succ{f:Nat}{l:List Bx}{k:Nat}{x:Bx}(h:l[k]? =some x):endsB f (l.take (k+1))=endsB f (l.take k)++[(x.get f).lo,(x.get f).hi+1]:=by
 simp[endsB,bI,h]
theorem endsB_len(f:Nat)(l:List Bx):(endsB f l).length=2*l.length:=by
 induction l with
 |nil=>rfl
 |cons x l ih=>rw[endsB,cX,aC];rw[endsB]at ih;rw[ih,aB];simp;omega
theorem cxCuts(a b:List Bx)(f:Nat)(hf:f<=4)(ha:a.length<1000000000)(hb:b.length<1000000000){K:KT}
  (hK:∀st:List Int,st.Pairwise (· < ·)->(∀z,z∈st↔z=0\/z=topF f+1\/z∈endsB f a\/z∈endsB f b)->K (.lst (st.map encZ)) []):
  AC 289 [.v (.int .i64 f),.lst [encXs a,encXs b]] [] K:=by
 refine ofxCuts rfl rfl ?_;have hTop:∀{K:KT},K (.v (.int .u32 (topF f))) []->AC 119 [.v (.int .i64 f)] [] K:=fun h=>cxTop _ (by rw[topI_nat hf];exact h);have ht:=topF_pos f;(repeat' ((conv=>whnf);first|(with_reducible refine hTop ?_)|refine zG ?_|apply zA|intro h|exact zT));all_goals conv=>whnf
 refine Lp.times 3 ?_;(repeat' ((conv=>whnf);first|(refine in_c rfl ?_)|(refine gU rfl ?_)|refine zG ?_|apply zA|intro h|exact zT));all_goals conv=>whnf
 refine gL Nat (fun k=>⟨1,[(0,.arr 1 (([0,topF f+1]++endsB f (a.take k)).map encZ))],[(0,.v (.int .i64 f)),(5,.os 0 1 0 ([0,topF f+1]++endsB f (a.take k)).length),(15,.lst [encXs a,encXs b]),(16,.v (.int .i64 (([encXs a,encXs b].length:Nat):Int))),(17,.v (.int .i64 (0))),(21,encXs a),(22,.v (.int .i64 ((a.map encX).length:Nat))),(23,.v (.int .i64 k))]⟩) (fun k=>k<=a.length) (fun k=>a.length-k) 0 (aK _) ?_ ?_
 ·rw[cW,show endsB f []=[]from rfl,bF];exact leA
 intro k hk;rcases aF k a.length with hkl|hkl
 ·obtain⟨x,hx⟩:=gex hkl;have hs:=endsB_succ (f:=f) hx;have hlen:([0,topF f+1]++endsB f (a.take k)).length<=4000000010:=by
   have h1:=endsB_len f (a.take k);have h2:=endsB_len f a;rw[bA]at h1;simp only[aC,aB,aH];omega
  have hr:((x.get f).hi<=4294967295/\0<=(x.get f).hi)/\(x.get f).lo<=4294967295/\0<=(x.get f).lo:=⟨⟨(x.get f).h1,(x.get f).h0⟩,(x.get f).l1,(x.get f).l0⟩
  obtain⟨⟨hr1,hr2⟩,hr3,hr4⟩:=hr;have happ:(([0,topF f+1]++endsB f (a.take (k+1))).map encZ)=(([0,topF f+1]++endsB f (a.take k)).map encZ)++[encZ (x.get f).lo,encZ ((x.get f).hi+1)]:=by
   rw[hs,<-cN,aQ];rfl
  have hll:([0,topF f+1]++endsB f (a.take (k+1))).length=([0,topF f+1]++endsB f (a.take k)).length+2:=by
   rw[hs,<-cN,aC];rfl
  generalize hA:([0,topF f+1]++endsB f (a.take k))=A at*;generalize hB:([0,topF f+1]++endsB f (a.take (k+1)))=B at*;rcases f with _|_|_|_|_|f
  case succ.succ.succ.succ.succ=>omega
  all_goals
   simp only[Bx.get]at happ hr1 hr2 hr3 hr4;(repeat' ((conv=>whnf);first|(with_reducible first|refine hU hkl ?_|refine hJ hx ?_)|(refine in_c zd ?_)|refine zG ?_|apply zA|intro h|exact zT));all_goals conv=>whnf
   refine⟨k+1,by omega,by omega,?_⟩;rw[hB,happ,hll];exact leA
 ·rw[aY hkl];(repeat' ((conv=>whnf);first|(refine in_c rfl ?_)|(refine gU rfl ?_)|refine zG ?_|apply zA|intro h|exact zT));all_goals conv=>whnf
  refine gL Nat (fun k=>⟨1,[(0,.arr 1 ((([0,topF f+1]++endsB f a)++endsB f (b.take k)).map encZ))],[(0,.v (.int .i64 f)),(5,.os 0 1 0 (([0,topF f+1]++endsB f a)++endsB f (b.take k)).length),(15,.lst [encXs a,encXs b]),(16,.v (.int .i64 (([encXs a,encXs b].length:Nat):Int))),(17,.v (.int .i64 (0+1))),(21,encXs b),(22,.v (.int .i64 ((b.map encX).length:Nat))),(23,.v (.int .i64 k))]⟩) (fun k=>k<=b.length) (fun k=>b.length-k) 0 (aK _) ?_ ?_
  ·rw[cW,show endsB f []=[]from rfl,bF];exact leA
  intro k hk;rcases aF k b.length with hkl|hkl
  ·obtain⟨x,hx⟩:=gex hkl;have hs:=endsB_succ (f:=f) hx;have hlen:(([0,topF f+1]++endsB f a)++endsB f (b.take k)).length<=4000000010:=by
    have h1:=endsB_len f (b.take k);have h2:=endsB_len f a;rw[bA]at h1;simp only[aC,aB,aH];omega
   have hr:((x.get f).hi<=4294967295/\0<=(x.get f).hi)/\(x.get f).lo<=4294967295/\0<=(x.get f).lo:=⟨⟨(x.get f).h1,(x.get f).h0⟩,(x.get f).l1,(x.get f).l0⟩
   obtain⟨⟨hr1,hr2⟩,hr3,hr4⟩:=hr;have happ:((([0,topF f+1]++endsB f a)++endsB f (b.take (k+1))).map encZ)=((([0,topF f+1]++endsB f a)++endsB f (b.take k)).map encZ)++[encZ (x.get f).lo,encZ ((x.get f).hi+1)]:=by
    rw[hs,<-cN,aQ];rfl
   have hll:(([0,topF f+1]++endsB f a)++endsB f (b.take (k+1))).length=(([0,topF f+1]++endsB f a)++endsB f (b.take k)).length+2:=by
    rw[hs,<-cN,aC];rfl
   generalize hA:(([0,topF f+1]++endsB f a)++endsB f (b.take k))=A at*;generalize hB:(([0,topF f+1]++endsB f a)++endsB f (b.take (k+1)))=B at*;rcases f with _|_|_|_|_|f
   case succ.succ.succ.succ.succ=>omega
   all_goals
    simp only[Bx.get]at happ hr1 hr2 hr3 hr4;(repeat' ((conv=>whnf);first|(with_reducible first|refine hU hkl ?_|refine hJ hx ?_)|(refine in_c zd ?_)|refine zG ?_|apply zA|intro h|exact zT));all_goals conv=>whnf
    refine⟨k+1,by omega,by omega,?_⟩;rw[hB,happ,hll];exact leA
  ·rw[aY hkl];have hl:([0,topF f+1]++endsB f a++endsB f b).length<1000000000000:=by
    have h1:=endsB_len f a;have h2:=endsB_len f b;simp only[aC,aB,aH];omega
   (repeat' ((conv=>whnf);first|(with_reducible refine csSort _ hl fun l' hp hs=>?_)|refine zG ?_|apply zA|intro h|exact zT));all_goals conv=>whnf
   have hll:([0,topF f+1]++endsB f a++endsB f b).length=l'.length:=hp.length_eq.symm;rw[hll]at hl⊢;(repeat' ((conv=>whnf);first|(with_reducible refine csComp l' hl fun zs=>?_)|refine zG ?_|apply zA|intro h|exact zT));all_goals conv=>whnf
   refine Sl.intro (ys:=(comp l').map encZ) zx (by rw[bZ,fZ zx]) ?_;refine hK (comp l') (comp_lt hs) fun z=>?_;rw[comp_mem,hp.mem_iff];simp only[aX,aU,dM,or_false,or_assoc]
theorem cxEqB(a b:List Bx)(ha:a.length<1000000000000)(hb:b.length<1000000000000){K:KT}(hK:K (.sb (decide (a=b))) []):AC 254 [encXs a,encXs b] [] K:=by
 refine gO (ofxEqB rfl rfl ?_);(repeat' ((conv=>whnf);first|refine zG ?_|apply zA|intro h|exact zT));all_goals conv=>whnf
 ·have hl:a.length=b.length:=by
   rw[aA,aA]at h;omega
  refine gL Nat (fun k=>⟨0,[],[(0,encXs a),(1,encXs b),(12,.v (.int .i64 ((a.map encX).length:Nat))),(13,.v (.int .i64 k))]⟩) (fun k=>k<=a.length/\∀i,i<k->a[i]? =b[i]?) (fun k=>a.length-k) 0 ?_ ?_ ?_
  ·exact⟨aK _,fun i h=>absurd h (bC _)⟩
  ·exact leA
  intro k ⟨hk,hinv⟩;rcases aF k a.length with hkl|hkl
  ·have hkb:k<b.length:=by omega
   obtain⟨p,hp⟩:=gex hkl;obtain⟨q,hq⟩:=gex hkb;(repeat' ((conv=>whnf);first|(with_reducible first|refine hU hkl ?_|refine hU hkb ?_|refine hJ hp ?_|refine hJ hq ?_|refine eqv_X ?_)|refine zG ?_|apply zA|intro h|exact zT));all_goals conv=>whnf
   all_goals first
    |(refine⟨k+1,⟨by omega,fun i hi=>?_⟩,by omega,?_⟩
      ·rcases aF i k with h1|h1
       ·exact hinv i h1
       ·rw[show i=k by omega,hp,hq,h]
      ·rw[aO,aN];(exact leA))
    |(refine fin_f hK (decide_eq_false fun e=>?_)
      subst e;rw[hp]at hq;cases hq;exact h rfl)
  ·have hab:a=b:=by
    apply List.ext_getElem?;intro i;rcases aF i k with h1|h1
    ·exact hinv i h1
    ·rw[bO zo,bO zo]
   (repeat' ((conv=>whnf);first|refine zG ?_|apply zA|intro h|exact zT));all_goals conv=>whnf
   exact fin_t hK (decide_eq_true hab)
 ·exact fin_f hK (decide_eq_false fun e=>h (by rw[e]))
abbrev encG(g:Grp (List Bx)):AV:=.agg [.v (.int .u32 g.lo),.v (.int .u32 g.hi),encXs g.val]
def Opf(f:FuncId)(op:Bool->Bool->Bool):Prop:=∀(x y:Bool) {K:KT},K (.sb (op x y)) []->AC f [.sb x,.sb y] [] K
theorem Opf.ap{f:FuncId}{op:Bool->Bool->Bool}(h:Opf f op)(x y:Bool){K:KT}(hK:K (.sb (op x y)) []):AC f [.sb x,.sb y] [] K:=h x y hK
theorem Opf.ff{f:FuncId}{op:Bool->Bool->Bool}(h:Opf f op){K:KT}(hK:K (.sb (op false false)) []):AC f [.v (.bool false),.v (.bool false)] [] K:=
 ACall.args (ys:=[.sb false,.sb false]) ⟨Weak.bool,Weak.bool,trivial⟩ (h false false hK)
theorem opf_either:Opf 151 orB:=fun x y K hK=>cxEither x y hK
theorem opf_both:Opf 154 anB:=fun x y K hK=>cxBoth x y hK
theorem opf_without:Opf 156 woB:=fun x y K hK=>cxWout x y hK
theorem sl_app{xs zs:List AV}{n:Nat}{K:List AV->Prop}(h:xs.length=n)(hk:K xs):Sl (xs++zs) 0 n K:=
 Sl.intro (by rw[aC];omega) (by rw[bZ,fZ h]) hk
theorem sorted_len{M:Int}:∀(l:List Int) (c:Int),c<=M+1->l.Pairwise (· < ·)->(∀x,x∈l->c<=x/\x<=M)->c+l.length<=M+1
 |[],c,hc,_,_=>by simpa using hc
 |x::l,c,hc,hp,h=>by
  obtain⟨h1,h2⟩:=bT.1 hp;have hx:=h x zx;have h3:∀y,y∈l->x+1<=y/\y<=M:=fun y hy=>by have:=h1 y hy;have:=h y (aS _ hy);omega
  have:=sorted_len l (x+1) zo h2 h3;rw[aB];omega
theorem gs_len{gs:List (Grp (List Bx))}(h:∀g,g∈gs->g.val≠[]):gs.length<=sizeG gs:=by
 induction gs with
 |nil=>exact aK _
 |cons g gs ih=>
  have h1:=ih fun x hx=>h x (aS _ hx);have h2:1<=g.val.length:=by
   have:=h g zx;cases hv:g.val with
   |nil=>exact absurd hv this
   |cons=>simp
  simp only[sizeG,aR,dB,aB]at*;omega
theorem can_step(fn:FuncId)(op:Bool->Bool->Bool)(hop:Opf fn op)(most:Nat)(hm1:1<=most)(hm2:most<1000000000)(k:Nat)(hk:k<=4)
  (hIH:∀(a b:List Bx) {K:KT},okL a->okL b->a.length<1000000000->b.length<1000000000->K (.tup [encXs (if(cano op k a b).length<=most then cano op k a b else []),.sb (decide ((cano op k a b).length<=most))]) []->AC 231 [.v (.int .i64 (((4-k:Nat):Int)+1)),encXs a,encXs b,.fn (.func fn) [] [],.v (.int .i64 most)] [] K)
  (a b:List Bx){K:KT}(hoa:okL a)(hob:okL b)(ha:a.length<1000000000)(hb:b.length<1000000000)(hK:K (.tup [encXs (if(cano op (k+1) a b).length<=most then cano op (k+1) a b else []),.sb (decide ((cano op (k+1) a b).length<=most))]) []):
  AC 231 [.v (.int .i64 ((4-k:Nat):Int)),encXs a,encXs b,.fn (.func fn) [] [],.v (.int .i64 most)] [] K:=by
 have hf4:4-k<=4:=by omega
 have ht:=topF_pos (4-k);have hdead:a.length+b.length=0->op false false=false->cano op (k+1) a b=[]:=fun h h2=>by
  have e1:a=[]:=bY.1 zo;have e2:b=[]:=bY.1 zo;rw[e1,e2];exact cano_nils op h2 (k+1)
 refine gP (ofxCan rfl rfl ?_);(repeat' ((conv=>whnf);first|(with_reducible refine hop.ff ?_)|refine zG ?_|apply zA|intro h|exact zT));all_goals conv=>whnf
 refine Jn.at ⟨0,[],[(0,.v (.int .i64 ((4-k:Nat):Int))),(1,encXs a),(2,encXs b),(3,.fn (.func fn) [] []),(4,.v (.int .i64 most))]⟩ ?_ ?_
 ·(repeat' ((conv=>whnf);first|(with_reducible refine hop.ff ?_)|refine zG ?_|apply zA|intro h|exact zT));all_goals conv=>whnf
  ·refine⟨(),trivial,?_⟩;exact leA
  ·refine⟨_,gQ gR Weak.bool,?_⟩;rw[hdead (by simp only[aA]at*;omega) h]at hK;rw[aH,aG (aK _),decide_eq_true (aK _)]at hK;exact hK
  ·refine⟨(),trivial,?_⟩;exact leA
 (repeat' ((conv=>whnf);first|(with_reducible refine cxCuts a b (4-k) hf4 zo zo fun st' hs hm=>?_)|refine zG ?_|apply zA|intro h|exact zT));all_goals conv=>whnf
 obtain⟨st,rfl,hcuts⟩:=cuts_of (fun x hx=>hx.elim (fun h=>hoa x h _ hf4) fun h=>hob x h _ hf4) hs hm;have hR:∀u v,(∀r,r∈rngs (4-k) a b->((r.lo<=u/\u<=r.hi)↔(r.lo<=v/\v<=r.hi)))->restAt op k a b u=restAt op k a b v:=fun u v h=>restAt_congr h;rw[cano_any op k a b hcuts,flatG_len]at hK;have hstl:(0:Int)+st.length<=topF (4-k)+1:=sorted_len st 0 zo hcuts.sorted hcuts.range;refine gL Nat (fun i=>⟨1,[(0,.arr 3 ((gsAt (restAt op k a b) (topF (4-k)) st i).map encG))],[(0,.v (.int .i64 ((4-k:Nat):Int))),(1,encXs a),(2,encXs b),(3,.fn (.func fn) [] []),(4,.v (.int .i64 most)),(12,.os 0 3 0 (gsAt (restAt op k a b) (topF (4-k)) st i).length),(13,.v (.int .i64 (sizeG (gsAt (restAt op k a b) (topF (4-k)) st i)))),(14,.lst ((st++[topF (4-k)+1]).map encZ)),(15,.v (.int .i64 i))]⟩)
  (fun i=>i<=st.length/\sizeG (gsAt (restAt op k a b) (topF (4-k)) st i)<=most) (fun i=>st.length-i) 0 ⟨aK _,aK _⟩ ?_ ?_
 ·exact leA
 intro i ⟨hi,hsz⟩;rcases aF i st.length with hil|hil
 ·obtain⟨x,hx⟩:=gex hil;have hto:=segTo_range hcuts hx;have hgi:=gsAt_ginv hcuts hR i x hx;have hsucc:=gsAt_succ (R:=restAt op k a b) (top:=topF (4-k)) hx;have hle1:=gsAt_size (R:=restAt op k a b) (top:=topF (4-k)) (st:=st) (i+1);have hrs:=rest_size (R:=restAt op k a b) (top:=topF (4-k)) hx;have hx':(st++[topF (4-k)+1])[i]? =some x:=by rw[bD hil];exact hx
  have hy':=segTo_next (top:=topF (4-k)) hil;have hpl:i+1<(st++[topF (4-k)+1]).length:=by simp;omega
  have hpl0:i<(st++[topF (4-k)+1]).length:=by omega
  have hgl:=gs_len hgi.full;obtain⟨rest,hdr⟩:∃rest,restAt op k a b x=rest:=⟨_,rfl⟩
  obtain⟨to,hdto⟩:∃to,segTo (topF (4-k)) st i=to:=⟨_,rfl⟩
  rw[hdr,hdto]at hsucc;rw[hdr]at hrs;rw[hdto]at hto hy';have hcall:∀{K:KT},K (.tup [encXs (if rest.length<=most then rest else []),.sb (decide (rest.length<=most))]) []->AC 231 [.v (.int .i64 (((4-k:Nat):Int)+1)),encXs (atF (4-k) x a),encXs (atF (4-k) x b),.fn (.func fn) [] [],.v (.int .i64 most)] [] K:=fun h=>by
   have l1:=atF_len (4-k) x a;have l2:=atF_len (4-k) x b;refine hIH (atF (4-k) x a) (atF (4-k) x b) (okL_at hoa) (okL_at hob) zo zo ?_;rw[show cano op k (atF (4-k) x a) (atF (4-k) x b)=rest from hdr];exact h
  have hto1:to+1-1=to:=by omega
  by_cases hle:rest.length<=most
  case neg=>
   have hc2:∀{K:KT},K (.tup [encXs [],.sb false]) []->AC 231 [.v (.int .i64 (((4-k:Nat):Int)+1)),encXs (atF (4-k) x a),encXs (atF (4-k) x b),.fn (.func fn) [] [],.v (.int .i64 most)] [] K:=fun h=>hcall (by rw[aD hle,decide_eq_false hle];exact h);clear hcall hIH;rw[aD zo,decide_eq_false zo]at hK;(repeat' ((conv=>whnf);first|(with_reducible first|refine hU hpl0 ?_|refine gT (i+1) zo (by rw[aA];exact hpl) ?_|refine hJ hx' ?_|refine hJ hy' ?_|refine wr_u64 hto1 zo zo ?_|refine cxCov a (4-k) hf4 x zo ?_|refine cxCov b (4-k) hf4 x zo ?_|refine hc2 ?_)|refine zG ?_|apply zA|intro h|exact zT));all_goals conv=>whnf
   exact⟨_,gQ gR Weak.bool,hK⟩
  have hc2:∀{K:KT},K (.tup [encXs rest,.sb true]) []->AC 231 [.v (.int .i64 (((4-k:Nat):Int)+1)),encXs (atF (4-k) x a),encXs (atF (4-k) x b),.fn (.func fn) [] [],.v (.int .i64 most)] [] K:=fun h=>hcall (by rw[aG hle,decide_eq_true hle];exact h);clear hcall hIH;have hsz1:=gsAt_size (R:=restAt op k a b) (top:=topF (4-k)) (st:=st) (i+1);obtain⟨gs',hgs'⟩:∃gs',gsAt (restAt op k a b) (topF (4-k)) st (i+1)=gs':=⟨_,rfl⟩
  rw[hgs']at hsz1 hsucc hle1;have next:sizeG gs'<=most->∃g':Nat,(g'<=st.length/\sizeG (gsAt (restAt op k a b) (topF (4-k)) st g')<=most)/\g'=i+1/\gsAt (restAt op k a b) (topF (4-k)) st g'=gs':=fun h=>⟨i+1,⟨hil,by rw[hgs'];exact h⟩,rfl,hgs'⟩
  generalize gsAt (restAt op k a b) (topF (4-k)) st i=gs at*;have hsum:(sizeG gs:Int)+((rest.map encX).length:Int)=((sizeG gs+rest.length:Nat):Int):=by rw[aA];omega
  have hover:most<sizeG gs'->∃y,Weak (.tup [.nils,.v (.bool false)]) y/\K y []:=fun h=>by
   rw[aD zo,decide_eq_false zo]at hK;exact⟨_,gQ gR Weak.bool,hK⟩
  rcases cQ gs with hn|⟨ini,g,hc⟩
  ·subst hn;have hs2:rest≠[]->gs'=[⟨x,to,rest⟩]:=fun h=>by
    rw[hsucc];unfold grow;rw[aD (by simpa using h)];rfl
   (repeat' ((conv=>whnf);first|(with_reducible first|refine hU hpl0 ?_|refine gT (i+1) zo (by rw[aA];exact hpl) ?_|refine hJ hx' ?_|refine hJ hy' ?_|refine wr_u64 hto1 zo zo ?_|refine cxCov a (4-k) hf4 x zo ?_|refine cxCov b (4-k) hf4 x zo ?_|refine hc2 ?_|refine wr_i64 hsum zo zo ?_)|refine zG ?_|apply zA|intro h|exact zT));all_goals conv=>whnf
   ·have e0:rest=[]:=bY.1 (by simp only[aA]at h;omega);rw[e0,grow_nil]at hsucc;refine⟨i+1,⟨hil,by rw[hgs',hsucc];exact hsz⟩,by omega,?_⟩;rw[hgs',hsucc];exact leA
   ·rename_i h0;have e1:=hs2 fun e=>h0 (by rw[e];rfl);refine hover ?_;rw[e1];simp only[sizeG,aR,bL,dB,List.sum_nil]at*;omega
   ·rename_i h0;have e1:=hs2 fun e=>h0 (by rw[e];rfl);have e2:sizeG gs'=sizeG []+rest.length:=by rw[e1];simp[sizeG]
    refine⟨i+1,⟨hil,by rw[hgs'];omega⟩,by omega,?_⟩;rw[hgs',e2,e1];exact leA
  ·rw[cR]at hc;subst hc;have hgl2:=hgi.low g zx;have hgle:=hgi.wf.le g zx;have hil2:ini.length<(ini++[g]).length:=by simp
   have hel:(ini++[g])[0+ini.length]? =some g:=by simp
   have hlen:(ini++[g]).length=ini.length+1:=by simp
   have hsz2:=sizeG_snoc ini g;have hs2:rest≠[]->gs'=if g.hi+1=x/\g.val=rest then ini++[⟨g.lo,to,g.val⟩]else(ini++[g])++[⟨x,to,rest⟩]:=fun h=>by
    rw[hsucc];unfold grow;rw[aD (by simpa using h)];simp only[cU,cE,dO,dG,eqB_iff]
   (repeat' ((conv=>whnf);first|(with_reducible first|refine hU hpl0 ?_|refine gT (i+1) zo (by rw[aA];exact hpl) ?_|refine hJ hx' ?_|refine hJ hy' ?_|refine wr_u64 hto1 zo zo ?_|refine cxCov a (4-k) hf4 x zo ?_|refine cxCov b (4-k) hf4 x zo ?_|refine hc2 ?_|refine gT ini.length (by rw[hlen];omega) zo ?_|refine hJ hel ?_|refine cxEqB g.val rest zo zo ?_|refine wr_i64 hsum zo zo ?_)|refine zG ?_|apply zA|intro h|exact zT));all_goals conv=>whnf
   all_goals have hne:¬(((rest.map encX).length:Nat):Int)=0->rest≠[]:=fun h e=>h (by rw[e];rfl)
   ·have e0:rest=[]:=bY.1 (by simp only[aA]at h;omega);rw[e0,grow_nil]at hsucc;refine⟨i+1,⟨hil,by rw[hgs',hsucc];exact hsz⟩,by omega,?_⟩;rw[hgs',hsucc];exact leA
   ·rename_i h0 h1;have e1:=hs2 (hne h0);rw[aG ⟨h1,h⟩]at e1;have e2:sizeG gs'=sizeG (ini++[g]):=by rw[e1,sizeG_snoc,sizeG_snoc]
    have e3:(ini++[Grp.mk g.lo to g.val]).length=(ini++[g]).length:=by rw[hlen];simp
    have e4:(ini++[Grp.mk g.lo to g.val]).map encG=((ini++[g]).map encG).set (0+ini.length) (.agg [.v (.int .u32 g.lo),.v (.int .u32 to),encXs g.val]):=by
     rw[bK,aQ,aQ,eB _ _ zx];simp
    refine⟨i+1,⟨hil,by rw[hgs',e2];exact hsz⟩,by omega,?_⟩;rw[hgs',e2,e1,e3,e4];exact leA
   ·rename_i h0 h1 h2;have e1:=hs2 (hne h0);rw[aD fun e=>h2 e.2]at e1;exact hover (by rw[e1,sizeG_snoc];simp only;omega)
   ·rename_i h0 h1 h2;have e1:=hs2 (hne h0);rw[aD fun e=>h2 e.2]at e1;have e2:sizeG gs'=sizeG (ini++[g])+rest.length:=by rw[e1,sizeG_snoc]
    refine⟨i+1,⟨hil,by rw[hgs'];omega⟩,by omega,?_⟩;rw[hgs',e2,e1,aC,aQ (l₁:=ini++[g])];exact leA
   ·rename_i h0 h1;have e1:=hs2 (hne h0);rw[aD fun e=>h1 e.1]at e1;exact hover (by rw[e1,sizeG_snoc];simp only;omega)
   ·rename_i h0 h1;have e1:=hs2 (hne h0);rw[aD fun e=>h1 e.1]at e1;have e2:sizeG gs'=sizeG (ini++[g])+rest.length:=by rw[e1,sizeG_snoc]
    refine⟨i+1,⟨hil,by rw[hgs'];omega⟩,by omega,?_⟩;rw[hgs',e2,e1,aC,aQ (l₁:=ini++[g])];exact leA
 ·have hii:i=st.length:=by omega
  have hgf:=(gsAt_all (R:=restAt op k a b) (top:=topF (4-k)) (aM st.length))
  have hinv:=cano_ginv op k a b hcuts;have hpn:¬((st.length:Int)+1<(((st++[topF (4-k)+1]).map encZ).length:Nat)):=by simp
  rw[hii,hgf]at hsz⊢;clear hIH hR hcuts hdead hm hs hgf;generalize groupsOf (restAt op k a b) (topF (4-k)) st=gs at*;rw[aG hsz,decide_eq_true hsz]at hK;have hgl:=gs_len hinv.full;(repeat' ((conv=>whnf);first|(with_reducible first|refine in_c zd ?_|refine gT (sizeG gs) rfl zo ?_|refine Ob.intro ⟨aK _,aZ (dS _ (aZ hsz (Nat.le_of_lt hm2))) (bW zk)⟩ ?_)|refine zG ?_|apply zA|intro h|exact zT));all_goals conv=>whnf
  refine gL (Nat×List AV) (fun g=>⟨2,[(1,.arr 10 ((flatG (4-k) (gs.take g.1)).map encX++g.2)),(0,.arr 3 (gs.map encG))],[(0,.v (.int .i64 ((4-k:Nat):Int))),(20,.os 1 10 0 (flatG (4-k) (gs.take g.1)).length),(146,.os 0 3 0 gs.length),(147,.v (.int .i64 gs.length)),(148,.v (.int .i64 g.1))]⟩)
   (fun g=>g.1<=gs.length) (fun g=>gs.length-g.1) (0,List.replicate (sizeG gs) (encX zB)) (aK _) ?_ ?_
  ·exact leA
  rintro⟨j,zs⟩ hj
  simp only at hj⊢;rcases aF j gs.length with hjl|hjl
  ·obtain⟨g,hg⟩:=gex hjl;have hg0:gs[0+j]? =some g:=by rw[bK];exact hg
   (repeat' ((conv=>whnf);first|(with_reducible first|refine hZ hjl ?_|refine hJ hg0 ?_)|refine zG ?_|apply zA|intro h|exact zT));all_goals conv=>whnf
   have hghi:=hinv.low g (aI hg);have hgle:=hinv.wf.le g (aI hg);have m1:(mkR g.lo g.hi).lo=g.lo:=mkR_lo zo zo zo zo;have m2:(mkR g.lo g.hi).hi=g.hi:=mkR_hi zo zo zo zo;have hsu:flatG (4-k) (gs.take (j+1))=flatG (4-k) (gs.take j)++g.val.map fun b=>b.put (4-k) (mkR g.lo g.hi):=by
    rw[bI,hg];exact flatG_snoc
   have hfl1:(flatG (4-k) (gs.take j)).length+g.val.length<=sizeG gs:=by
    have h1:=flatG_len (4-k) (gs.take (j+1));have h2:sizeG (gs.take (j+1))<=sizeG gs:=by
     have:sizeG gs=sizeG (gs.take (j+1))+sizeG (gs.drop (j+1)):=by
      simp only[sizeG];rw[<-List.sum_append,<-aQ,cO]
     omega
    rw[hsu,aC,aA]at h1;omega
   obtain⟨F,hF⟩:∃F,flatG (4-k) (gs.take j)=F:=⟨_,rfl⟩
   rw[hF]at hsu hfl1⊢;refine gL (Nat×List AV) (fun q=>⟨3,[(2,.box [.v (.int .u32 g.lo),.v (.int .u32 g.hi),encXs g.val]),(1,.arr 10 ((F++(g.val.take q.1).map fun b=>b.put (4-k) (mkR g.lo g.hi)).map encX++q.2)),(0,.arr 3 (gs.map encG))],[(0,.v (.int .i64 ((4-k:Nat):Int))),(20,.os 1 10 0 (F.length+q.1)),(22,.op 2 0),(146,.os 0 3 0 gs.length),(147,.v (.int .i64 gs.length)),(148,.v (.int .i64 j)),(153,encXs g.val),(154,.v (.int .i64 ((g.val.map encX).length:Nat))),(155,.v (.int .i64 q.1))]⟩)
    (fun q=>q.1<=g.val.length) (fun q=>g.val.length-q.1) (0,zs) (aK _) ?_ ?_
   ·rw[cW,bL,bF];exact leA
   rintro⟨m,ys⟩ hm
   simp only at hm⊢;rcases aF m g.val.length with hml|hml
   ·obtain⟨z,hz⟩:=gex hml;have hnext:(F++(g.val.take (m+1)).map fun b=>b.put (4-k) (mkR g.lo g.hi)).map encX=(F++(g.val.take m).map fun b=>b.put (4-k) (mkR g.lo g.hi)).map encX++[encX (z.put (4-k) (mkR g.lo g.hi))]:=by
     simp only[bI,hz,eC,aQ,aR,bL,cN]
    have hAl:((F++(g.val.take m).map fun b=>b.put (4-k) (mkR g.lo g.hi)).map encX).length=F.length+m:=by
     rw[aA,aC,aA,bA];omega
    generalize hA:(F++(g.val.take m).map fun b=>b.put (4-k) (mkR g.lo g.hi)).map encX=A at*;generalize hB:(F++(g.val.take (m+1)).map fun b=>b.put (4-k) (mkR g.lo g.hi)).map encX=B at*;obtain⟨V,hV⟩:∃V,V=encX (z.put (4-k) (mkR g.lo g.hi)):=⟨_,rfl⟩
    rw[<-hV]at hnext;obtain rfl|rfl|rfl|rfl|rfl:k=0\/k=1\/k=2\/k=3\/k=4:=by omega
    all_goals
     simp only[Nat.reduceSub,put0,put1,put2,put3,put4,encX,m1,m2]at hV;rw[hV]at hnext;(repeat' ((conv=>whnf);first|(with_reducible first|refine hU hml ?_|refine hZ hml ?_|refine hJ hz ?_)|(refine in_c zd ?_)|(with_reducible refine sl_app hAl ?_)|refine zG ?_|apply zA|intro h|exact zT));all_goals conv=>whnf
     refine⟨(m+1,[]),by simp only;omega,by simp only;omega,?_⟩;simp only;rw[hB,hnext,bF];exact leA
   ·(repeat' ((conv=>whnf);first|refine zG ?_|apply zA|intro h|exact zT));all_goals conv=>whnf
    have hmm:m=g.val.length:=by omega
    rw[hmm,dD,<-hsu];have e2:F.length+g.val.length=(flatG (4-k) (gs.take (j+1))).length:=by rw[hsu,aC,aA]
    refine⟨(j+1,ys),hjl,by simp only;omega,?_⟩;simp only;rw[e2];exact leA
  ·rw[aY hjl];(repeat' ((conv=>whnf);first|(with_reducible refine sl_app (by rw[aA]) ?_)|refine zG ?_|apply zA|intro h|exact zT));all_goals conv=>whnf
   exact⟨_,gQ gM Weak.bool,hK⟩
theorem cxCan(fn:FuncId)(op:Bool->Bool->Bool)(hop:Opf fn op)(most:Nat)(hm1:1<=most)(hm2:most<1000000000):∀(k:Nat),k<=5->∀(a b:List Bx) {K:KT},okL a->okL b->a.length<1000000000->b.length<1000000000->
  K (.tup [encXs (if(cano op k a b).length<=most then cano op k a b else []),.sb (decide ((cano op k a b).length<=most))]) []->
  AC 231 [.v (.int .i64 ((5-k:Nat):Int)),encXs a,encXs b,.fn (.func fn) [] [],.v (.int .i64 most)] [] K
 |0,_,a,b,K,hoa,hob,ha,hb,hK=>by
  rw[cano]at hK;refine gP (ofxCan rfl rfl ?_);(repeat' ((conv=>whnf);first|(with_reducible refine hop.ap _ _ ?_)|refine zG ?_|apply zA|intro h|exact zT));all_goals conv=>whnf
  ·rw[dec_pos,dec_pos]at h;rw[h,aG rfl,aG (by exact hm1),decide_eq_true (by exact hm1)]at hK;exact⟨_,gQ gM Weak.bool,hK⟩
  ·rw[dec_pos,dec_pos]at h;simp only[h,cM,if_false,aH,aK,if_true,decide_true,ite_self]at hK;exact⟨_,gQ gR Weak.bool,hK⟩
 |k+1,hk,a,b,K,hoa,hob,ha,hb,hK=>by
  rw[show 5-(k+1)=4-k by omega];refine can_step fn op hop most hm1 hm2 k zo (fun a b K h1 h2 h3 h4 h5=>?_) a b hoa hob ha hb hK;rw[show((4-k:Nat):Int)+1=((5-k:Nat):Int) by omega];exact cxCan fn op hop most hm1 hm2 k zo a b h1 h2 h3 h4 h5
def five(c0 c1 c2 c3 c4:Int):Nat->Int
 |0=>c0
 |1=>c1
 |2=>c2
 |3=>c3
 |_=>c4
abbrev boxV(c0 c1 c2 c3 c4:Int):Vm.Obj:=.box [.v (.int .u32 c0),.v (.int .u32 c1),.v (.int .u32 c2),.v (.int .u32 c3),.v (.int .u32 c4)]
def LeastK(k:Nat)(R:List Bx)(c0 c1 c2 c3 c4:Int)(K:AV->List Vm.Obj->Prop):Prop:=
 (∀d0 d1 d2 d3 d4,(∀f,f<=4->f+k<5->five d0 d1 d2 d3 d4 f=five c0 c1 c2 c3 c4 f)->(R≠[]->∀f,f<=4->5<=f+k->five d0 d1 d2 d3 d4 f=lows R f)->K (.sb (!R.isEmpty)) [boxV d0 d1 d2 d3 d4])
theorem least_step(fn:FuncId)(hfn:fn=156)(op:Bool->Bool->Bool)(hop:Opf fn op)(k:Nat)(hk:k<=4)
  (hIH:∀(a b:List Bx) (c0 c1 c2 c3 c4:Int) {K:KT},okL a->okL b->a.length<1000000000->b.length<1000000000->LeastK k (cano op k a b) c0 c1 c2 c3 c4 K->AC 255 [.v (.int .i64 (((4-k:Nat):Int)+1)),encXs a,encXs b,.fn (.func fn) [] [],.op 0 0] [boxV c0 c1 c2 c3 c4] K)
  (a b:List Bx)(c0 c1 c2 c3 c4:Int){K:KT}(hoa:okL a)(hob:okL b)(ha:a.length<1000000000)(hb:b.length<1000000000)(hK:LeastK (k+1) (cano op (k+1) a b) c0 c1 c2 c3 c4 K):
  AC 255 [.v (.int .i64 ((4-k:Nat):Int)),encXs a,encXs b,.fn (.func fn) [] [],.op 0 0] [boxV c0 c1 c2 c3 c4] K:=by
 have hf4:4-k<=4:=by omega
 have ht:=topF_pos (4-k);have hTop:∀{K:KT},K (.v (.int .u32 (topF (4-k)))) []->AC 119 [.v (.int .i64 ((4-k:Nat):Int))] [] K:=fun h=>cxTop _ (by rw[topI_nat hf4];exact h);have hdead:a.length+b.length=0->op false false=false->cano op (k+1) a b=[]:=fun h h2=>by
  have e1:a=[]:=bY.1 zo;have e2:b=[]:=bY.1 zo;rw[e1,e2];exact cano_nils op h2 (k+1)
 subst hfn;refine gO (ofxLst rfl rfl ?_);(repeat' ((conv=>whnf);first|(with_reducible refine hop.ff ?_)|refine zG ?_|apply zA|intro h|exact zT));all_goals conv=>whnf
 refine Jn.at ⟨1,[(0,boxV c0 c1 c2 c3 c4)],[(0,.v (.int .i64 ((4-k:Nat):Int))),(1,encXs a),(2,encXs b),(3,.fn (.func 156) [] []),(4,.op 0 0)]⟩ ?_ ?_
 ·(repeat' ((conv=>whnf);first|(with_reducible refine hop.ff ?_)|refine zG ?_|apply zA|intro h|exact zT));all_goals conv=>whnf
  ·refine⟨(),trivial,?_⟩;exact leA
  ·have e:=hdead (by simp only[aA]at*;omega) h;rw[e]at hK;exact .inl ⟨false,rfl,hK c0 c1 c2 c3 c4 (fun _ _ _=>rfl) fun h=>absurd rfl h⟩
  ·refine⟨(),trivial,?_⟩;exact leA
 (repeat' ((conv=>whnf);first|(with_reducible refine cxCuts a b (4-k) hf4 zo zo fun st' hs hm=>?_)|refine zG ?_|apply zA|intro h|exact zT));all_goals conv=>whnf
 obtain⟨st,rfl,hcuts⟩:=cuts_of (fun x hx=>hx.elim (fun h=>hoa x h _ hf4) fun h=>hob x h _ hf4) hs hm;have hstl:(0:Int)+st.length<=topF (4-k)+1:=sorted_len st 0 zo hcuts.sorted hcuts.range;have hpl:(st++[topF (4-k)+1]).length=st.length+1:=by simp
 refine gL (Nat×Int×Int×Int×Int×Int) (fun g=>⟨1,[(0,boxV g.2.1 g.2.2.1 g.2.2.2.1 g.2.2.2.2.1 g.2.2.2.2.2)],[(0,.v (.int .i64 ((4-k:Nat):Int))),(1,encXs a),(2,encXs b),(3,.fn (.func 156) [] []),(4,.op 0 0),(38,.lst ((st++[topF (4-k)+1]).map encZ)),(39,.v (.int .i64 (((st++[topF (4-k)+1]).map encZ).length:Nat))),(40,.v (.int .i64 g.1))]⟩)
  (fun g=>g.1<=st.length/\(∀f,f<=4->f+(k+1)<5->five g.2.1 g.2.2.1 g.2.2.2.1 g.2.2.2.2.1 g.2.2.2.2.2 f=five c0 c1 c2 c3 c4 f)/\∀(j:Nat) y,j<g.1->st[j]? =some y->restAt op k a b y=[]) (fun g=>st.length-g.1) (0,c0,c1,c2,c3,c4) ⟨aK _,fun _ _ _=>rfl,fun j y h=>absurd h (bC _)⟩ ?_ ?_
 ·exact leA
 rintro⟨i,e0,e1,e2,e3,e4⟩ ⟨hi,hsame,hno⟩
 simp only at hi hsame hno⊢;have hpi:i<(st++[topF (4-k)+1]).length:=by omega
 rcases aF i st.length with hil|hil
 ·obtain⟨x,hx⟩:=gex hil;have hxr:=hcuts.range x (aI hx);have hx':(st++[topF (4-k)+1])[i]? =some x:=by rw[bD hil];exact hx
  have l1:=atF_len (4-k) x a;have l2:=atF_len (4-k) x b;have hno2:restAt op k a b x=[]->∀(j:Nat) y,j<i+1->st[j]? =some y->restAt op k a b y=[]:=fun he j y hj hy=>by
   rcases aF j i with h1|h1
   ·exact hno j y h1 hy
   ·rw[show j=i by omega,hx]at hy;cases hy;exact he
  have hcov1:∀{K:KT},K (encXs (atF (4-k) x a)) []->AC 290 [encXs a,.v (.int .i64 ((4-k:Nat):Int)),.v (.int .u32 x)] [] K:=fun h=>cxCov a (4-k) hf4 x zo h;have hcov2:∀{K:KT},K (encXs (atF (4-k) x b)) []->AC 290 [encXs b,.v (.int .i64 ((4-k:Nat):Int)),.v (.int .u32 x)] [] K:=fun h=>cxCov b (4-k) hf4 x zo h;have hcall:∀(g0 g1 g2 g3 g4:Int) {K:KT},LeastK k (restAt op k a b x) g0 g1 g2 g3 g4 K->AC 255 [.v (.int .i64 (((4-k:Nat):Int)+1)),encXs (atF (4-k) x a),encXs (atF (4-k) x b),.fn (.func 156) [] [],.op 0 0] [boxV g0 g1 g2 g3 g4] K:=fun g0 g1 g2 g3 g4 {K} h=>hIH _ _ g0 g1 g2 g3 g4 (okL_at hoa) (okL_at hob) zo zo h;have hlows:=lows_cano (op:=op) (a:=a) (b:=b) hk hcuts hx;clear hIH hm hs hpl;generalize restAt op k a b x=rest at*;obtain⟨kk,hkk⟩:∃kk,k=kk:=⟨k,rfl⟩
  have hlowk:rest≠[]->(cano op (kk+1) a b≠[]/\lows (cano op (kk+1) a b) (4-kk)=x/\∀f,f<=4->f≠4-kk->lows (cano op (kk+1) a b) f=lows rest f):=fun h=>by rw[<-hkk];exact hlows h hno
  have hKk:LeastK (kk+1) (cano op (kk+1) a b) c0 c1 c2 c3 c4 K:=by rw[<-hkk];exact hK
  obtain rfl|rfl|rfl|rfl|rfl:k=0\/k=1\/k=2\/k=3\/k=4:=by omega
  all_goals
   (repeat' ((conv=>whnf);first|(with_reducible first|refine hU hpi ?_|refine hJ hx' ?_|refine hTop ?_)|(refine in_c zd ?_)|(with_reducible first|refine hcov1 ?_|refine hcov2 ?_)|(refine hcall _ _ _ _ _ ?_)|refine zG ?_|apply zA|intro h|exact zT));all_goals conv=>whnf
   (all_goals rename_i d0 d1 d2 d3 d4 hd1 hd2);(repeat' ((conv=>whnf);first|refine zG ?_|apply zA|intro h|exact zT));all_goals conv=>whnf
   ·have hre:rest=[]:=eZ.1 h;refine⟨(i+1,d0,d1,d2,d3,d4),⟨hil,fun f h1 h2=>?_,hno2 hre⟩,by simp only;omega,?_⟩
    ·simp only;have h5:=hd1 f h1 zo;have h6:=hsame f h1 h2;obtain rfl|rfl|rfl|rfl|rfl:f=0\/f=1\/f=2\/f=3\/f=4:=by omega
     all_goals first|omega|(simp only[five]at h5 h6⊢;omega)
    ·simp only;rw[aO,aN];exact leA
   ·have hre:rest≠[]:=fun e=>by rw[e]at h;cases h
    obtain⟨n1,n2,n3⟩:=hlowk hre;have hb1:(cano op (kk+1) a b).isEmpty=false:=by
     cases hc:cano op (kk+1) a b with
     |nil=>exact absurd hc n1
     |cons=>rfl
    have hfin:=hKk d0 d1 d2 d3 d4 (fun f h1 h2=>by
     have h5:=hd1 f h1 zo;have h6:=hsame f h1 zo;obtain rfl|rfl|rfl|rfl|rfl:f=0\/f=1\/f=2\/f=3\/f=4:=by omega
     all_goals first|omega|(simp only[five]at h5 h6⊢;omega)) (fun _ f h1 h2=>by
     rcases aF (f+kk) 5 with h3|h3
     ·have hf:f=4-kk:=by omega
      rw[hf,n2,hd1 _ zo zo];subst hkk;rfl
     ·rw[n3 f h1 zo,hd2 hre f h1 zo])
    rw[hb1]at hfin;exact .inl ⟨true,rfl,hfin⟩
 ·have hie:i=st.length:=by omega
  have hx':(st++[topF (4-k)+1])[i]? =some (topF (4-k)+1):=by rw[hie];simp
  have hnil:cano op (k+1) a b=[]:=by
   have inv:=cano_ginv op k a b hcuts;rw[cano_any op k a b hcuts,flatG_nil inv.full,<-gsAt_all (aM st.length)];exact gsAt_nil _ fun j y hj hy=>hno j y zo hy
  rw[hnil]at hK;(repeat' ((conv=>whnf);first|(with_reducible first|refine hU hpi ?_|refine hJ hx' ?_|refine hTop ?_)|refine zG ?_|apply zA|intro h|exact zT));all_goals conv=>whnf
  exact .inl ⟨false,rfl,hK e0 e1 e2 e3 e4 (fun f h1 h2=>hsame f h1 h2) fun h=>absurd rfl h⟩
theorem cxLst(fn:FuncId)(hfn:fn=156)(op:Bool->Bool->Bool)(hop:Opf fn op):∀(k:Nat),k<=5->∀(a b:List Bx) (c0 c1 c2 c3 c4:Int) {K:KT},okL a->okL b->a.length<1000000000->b.length<1000000000->LeastK k (cano op k a b) c0 c1 c2 c3 c4 K->
  AC 255 [.v (.int .i64 ((5-k:Nat):Int)),encXs a,encXs b,.fn (.func fn) [] [],.op 0 0] [boxV c0 c1 c2 c3 c4] K
 |0,_,a,b,c0,c1,c2,c3,c4,K,hoa,hob,ha,hb,hK=>by
  have hk:K (.sb (op (!a.isEmpty) (!b.isEmpty))) [boxV c0 c1 c2 c3 c4]:=by
   have:=hK c0 c1 c2 c3 c4 (fun _ _ _=>rfl) (fun _ f h1 h2=>by omega);rw[cano]at this;cases hc:op (!a.isEmpty) (!b.isEmpty)<;>rw[hc]at this<;>exact this
  subst hfn;refine gO (ofxLst rfl rfl ?_);(repeat' ((conv=>whnf);first|(with_reducible refine hop.ap _ _ ?_)|refine zG ?_|apply zA|intro h|exact zT));all_goals conv=>whnf
  rw[dec_pos,dec_pos];exact .inr ⟨_,rfl,hk⟩
 |k+1,hk,a,b,c0,c1,c2,c3,c4,K,hoa,hob,ha,hb,hK=>by
  rw[show 5-(k+1)=4-k by omega];refine least_step fn hfn op hop k zo (fun a b c0 c1 c2 c3 c4 K h1 h2 h3 h4 h5=>?_) a b c0 c1 c2 c3 c4 hoa hob ha hb hK;rw[show((4-k:Nat):Int)+1=((5-k:Nat):Int) by omega];exact cxLst fn hfn op hop k zo a b c0 c1 c2 c3 c4 h1 h2 h3 h4 h5
theorem ix_set{xs:List AV}{i:Nat}{x:AV}{K:AV->Prop}(h:i<xs.length)(hk:K x):Ix (xs.set i x) i K:=
 gU (by rw[List.getElem?_set_self h]) hk
theorem cxRests(l:List Bx)(f:Nat)(hf:f<=4)(hl:l.length<1000000000){K:KT}(hK:K (encXs (l.map (zeroTo (4-f)))) []):AC 253 [.v (.int .i64 f),encXs l] [] K:=by
 refine gP (ofxRests rfl rfl ?_);(repeat' ((conv=>whnf);first|refine zG ?_|apply zA|intro h|exact zT));all_goals conv=>whnf
 refine cxClone l hl (fun e=>?_) ?_
 ·subst e;(repeat' ((conv=>whnf);first|refine zG ?_|apply zA|intro h|exact zT));all_goals conv=>whnf
  refine Lp.times 1 ?_;(repeat' ((conv=>whnf);first|refine zG ?_|apply zA|intro h|exact zT));all_goals conv=>whnf
  exact⟨_,gR,hK⟩
 ·(repeat' ((conv=>whnf);first|refine zG ?_|apply zA|intro h|exact zT));all_goals conv=>whnf
  refine gL Nat (fun i=>⟨1,[(0,.arr 10 (((l.take i).map (zeroTo (4-f))++l.drop i).map encX))],[(0,.v (.int .i64 f)),(5,.os 0 10 0 l.length),(11,.v (.int .i64 l.length)),(12,.v (.int .i64 i))]⟩) (fun i=>i<=l.length) (fun i=>l.length-i) 0 (aK _) ?_ ?_
  ·rw[cW,bZ];exact leA
  intro i hi;rcases aF i l.length with hil|hil
  ·obtain⟨x,hx⟩:=gex hil;have hd:l.drop i=x::l.drop (i+1):=by
    rw[aE hil]at hx;rw[<-bE hx,<-bB hil]
   have htl:((l.take i).map (zeroTo (4-f))).length=i:=by rw[aA,bA];omega
   have hget:((l.take i).map (zeroTo (4-f))++l.drop i)[0+i]? =some x:=by
    rw[bK,bG zo,htl,dX,hd];rfl
   have hset:∀y:Bx,(((l.take i).map (zeroTo (4-f))++l.drop i).map encX).set (0+i) (encX y)=((l.take i).map (zeroTo (4-f))++y::l.drop (i+1)).map encX:=fun y=>by
    rw[bK,<-eU,eB _ _ zo,htl,dX,hd];rfl
   have hnext:(l.take (i+1)).map (zeroTo (4-f))++l.drop (i+1)=(l.take i).map (zeroTo (4-f))++zeroTo (4-f) x::l.drop (i+1):=by
    rw[bI,hx,aQ,cN];rfl
   have hlen:0+i<(((l.take i).map (zeroTo (4-f))++l.drop i).map encX).length:=by
    rw[aA,aC,htl,cH];omega
   generalize hA:(l.take i).map (zeroTo (4-f))++l.drop i=A at*;rcases f with _|_|_|_|_|f
   case succ.succ.succ.succ.succ=>omega
   all_goals
    (repeat' ((conv=>whnf);first|(with_reducible first|refine Lp.times 7 ?_|refine hZ hil ?_|refine hJ hget ?_|refine ix_set (by simpa only[cT]using hlen) ?_)|(refine in_c zd ?_)|refine zG ?_|apply zA|intro h|exact zT));all_goals conv=>whnf
    refine⟨i+1,hil,by omega,?_⟩;try simp only[List.set_set]
    rw[hnext,<-hset,aO,aN];exact leA
  ·rw[aY hil,bU hil,bF];(repeat' ((conv=>whnf);first|(with_reducible refine sl_full (by rw[aA,aA]) ?_)|refine zG ?_|apply zA|intro h|exact zT));all_goals conv=>whnf
   exact⟨_,gM,hK⟩
theorem limB{l:List Bx}:limP l=(if l.length<=4096 then l else []):=by
 unfold limP;split<;>split<;>first|rfl|omega
theorem cxComb(fn:FuncId)(op:Bool->Bool->Bool)(hop:Opf fn op)(a b:List Bx)(hoa:okL a)(hob:okL b)(ha:a.length<1000000000)(hb:b.length<1000000000){K:KT}(hK:K (.tup [encXs (limP (cano op 5 a b)),.v (.int .i64 (limE (cano op 5 a b)))]) []):
  AC 150 [encXs a,encXs b,.fn (.func fn) [] []] [] K:=by
 have hcan:∀{K:KT},K (.tup [encXs (if(cano op 5 a b).length<=4096 then cano op 5 a b else []),.sb (decide ((cano op 5 a b).length<=4096))]) []->AC 231 [.v (.int .i64 0),encXs a,encXs b,.fn (.func fn) [] [],.v (.int .i64 4096)] [] K:=
  fun h=>cxCan fn op hop 4096 zd zd 5 (aM _) a b hoa hob ha hb h
 refine gP (ofxComb rfl rfl ?_);unfold limE at hK;rw[limB]at hK;(repeat' ((conv=>whnf);first|(with_reducible refine hcan ?_)|refine zG ?_|apply zA|intro h|exact zT));all_goals conv=>whnf
 ·rw[aD (c:=4096<_) zo]at hK;exact⟨_,gM,hK⟩
 ·rw[aD h,aG zo]at hK;exact⟨_,gQ gR gM,hK⟩
theorem div_step(k:Nat)(hk:k<=4)(hIH:∀(l:List Bx) {K:KT},l.length<1000000000->l≠[]->K (.sb (canB k l)) []->AC 188 [.v (.int .i64 (((4-k:Nat):Int)+1)),encXs l] [] K)
  (l:List Bx)(hl:l.length<1000000000){K:KT}(hK:K (.sb (canB (k+1) l)) []):AC 188 [.v (.int .i64 ((4-k:Nat):Int)),encXs l] [] K:=by
 have hf4:4-k<=4:=by omega
 have hP:=runs_parts (4-k) l;have hfl:=runs_flat (4-k) l;have hal:∀{a b:List Bx},alike (4-k+1) a b=decide (a.map (zeroTo k)=b.map (zeroTo k)):=fun {a b}=>by
  rw[show 4-k+1=5-k by omega,bJ,aL];exact alike_iff
 rw[canB]at hK;generalize runsF (4-k) l=ps at*;have hflen:ps.flatten.length=l.length:=by rw[hfl]
 refine gO (ofxDiv rfl rfl ?_);(repeat' ((conv=>whnf);first|refine zG ?_|apply zA|intro h|exact zT));all_goals conv=>whnf
 refine gL (Nat×Int×Int×AV) (fun r=>⟨1,[(0,.box [.v (.int .u32 r.2.1),.v (.int .u32 r.2.2.1),r.2.2.2])],[(0,.v (.int .i64 ((4-k:Nat):Int))),(1,encXs (ps.drop r.1).flatten),(5,.op 0 0)]⟩)
  (fun r=>r.1<=ps.length/\chkR (canB k) (4-k) [] ps=chkR (canB k) (4-k) (lastRun ps r.1) (ps.drop r.1)/\((lastRun ps r.1=[]/\r.2.2.2=.nils)\/(lastRun ps r.1≠[]/\r.2=((rgOf (4-k) (lastRun ps r.1)).lo,(rgOf (4-k) (lastRun ps r.1)).hi,encXs ((lastRun ps r.1).map (zeroTo k)))/\(lastRun ps r.1).length<=l.length))) (fun r=>ps.length-r.1) (0,0,0,.nils) ⟨aK _,by rw[bZ];rfl,.inl ⟨rfl,rfl⟩⟩ ?_ ?_
 ·rw[bZ,hfl];exact leA
 rintro⟨r,lo,hi,y⟩ ⟨hr,hchk,hlast⟩
 simp only at hr hchk hlast⊢;have hsufl:(ps.drop r).flatten.length<=l.length:=by
  rw[<-hflen];have:ps.flatten=(ps.take r).flatten++(ps.drop r).flatten:=by rw[<-List.flatten_append,cO]
  rw[this,aC];omega
 rcases aF r ps.length with hrl|hrl
 ·obtain⟨p,hp⟩:=gex hrl;obtain⟨hp1,hp2⟩:=hP.mem p (aI hp);have hplen:0<p.length:=dA.2 hp1;have hdrop:ps.drop r=p::ps.drop (r+1):=by
   rw[aE hrl]at hp;rw[<-bE hp,<-bB hrl]
  obtain⟨more,hmore⟩:∃more,(ps.drop (r+1)).flatten=more:=⟨_,rfl⟩
  have hsuf:(ps.drop r).flatten=p++more:=by rw[hdrop,eI,hmore]
  rw[hsuf]at hsufl⊢;rw[aC]at hsufl;obtain⟨x0,hx0⟩:=gex hplen;have hlx0:(p++more)[0]? =some x0:=by rw[bD hplen];exact hx0
  have hx0r:x0.get (4-k)=rgOf (4-k) p:=hp2 x0 (aI hx0);have hends:more=[]\/∃y,(p++more)[p.length]? =some y/\y.get (4-k)≠x0.get (4-k):=by
   rcases aF (r+1) ps.length with hn|hn
   ·obtain⟨q,hq⟩:∃q,ps[r+1]? =some q:=⟨_,aE hn⟩
    obtain⟨hq1,hq2⟩:=hP.mem q (aI hq);obtain⟨y,hy⟩:∃y,q[0]? =some y:=⟨_,aE (dA.2 hq1)⟩
    refine .inr ⟨y,?_,?_⟩
    ·have hd2:ps.drop (r+1)=q::ps.drop (r+2):=by
      rw[aE hn]at hq;rw[<-bE hq,<-bB hn]
     rw[<-hmore,hd2,eI,bG (aM _),dX,bD (dA.2 hq1)];exact hy
    ·rw[hq2 y (aI hy),hx0r];exact(hP.next hp hq).symm
   ·left;rw[<-hmore,bU zo];rfl
  have hpl0:0<(p++more).length:=by rw[aC];omega
  have hstep:chkR (canB k) (4-k) [] ps=(!joinB (4-k) (lastRun ps r) p&&canB k p&&chkR (canB k) (4-k) p (ps.drop (r+1))):=by rw[hchk,hdrop,chkR]
  have hlast1:lastRun ps (r+1)=p:=by rw[lastRun,hp];rfl
  have hrests:∀{K:KT},K (encXs (p.map (zeroTo k))) []->AC 253 [.v (.int .i64 ((4-k:Nat):Int)),encXs p] [] K:=fun h=>cxRests p (4-k) hf4 zo (by rw[show 4-(4-k)=k by omega];exact h);have hsl:∀{K:List AV->Prop},K (p.map encX)->Sl ((p++more).map encX) 0 (p.length-0) K:=fun {K} h=>by
   refine sl_map (by rw[aC];omega) ?_;rw[bZ,eL,fZ rfl];exact h
  have hx0l:=(x0.get (4-k)).l1;have hx0l0:=(x0.get (4-k)).l0;have hcan:∀{K:KT},K (.sb (canB k p)) []->AC 188 [.v (.int .i64 (((4-k:Nat):Int)+1)),encXs p] [] K:=fun h=>hIH p zo hp1 h;have hsl2:∀{K:List AV->Prop},K (more.map encX)->Sl ((p++more).map encX) p.length ((p++more).length-p.length) K:=fun {K} h=>by
   refine sl_map (by rw[aC];omega) ?_;rw[List.drop_left' rfl,aY (by rw[aC];omega)];exact h
  have hml:(more.map encX).length=more.length:=aA ..;have hjoin:∀(z:Bool),joinB (4-k) (lastRun ps r) p=z->chkR (canB k) (4-k) [] ps=(!z&&canB k p&&chkR (canB k) (4-k) p (ps.drop (r+1))):=fun z h=>by rw[hstep,h]
  rcases hlast with⟨hl0,rfl⟩|⟨hl0,heq,hll⟩
  ·(repeat' ((conv=>whnf);first|refine zG ?_|apply zA|intro h|exact zT));all_goals conv=>whnf
   refine Jn.at ⟨1,[(0,.box [.v (.int .u32 lo),.v (.int .u32 hi),.nils])],[(0,.v (.int .i64 ((4-k:Nat):Int))),(1,encXs (p++more)),(5,.op 0 0),(6,.v (.int .i64 p.length))]⟩ ?_ ?_
   ·(repeat' ((conv=>whnf);first|refine zG ?_|apply zA|intro h|exact zT));all_goals conv=>whnf
    refine gL Nat (fun j=>⟨1,[(0,.box [.v (.int .u32 lo),.v (.int .u32 hi),.nils])],[(0,.v (.int .i64 ((4-k:Nat):Int))),(1,encXs (p++more)),(5,.op 0 0),(6,.v (.int .i64 j))]⟩) (fun j=>1<=j/\j<=p.length) (fun j=>p.length-j) 1 ⟨aM _,hplen⟩ ?_ ?_
    ·exact leA
    intro j ⟨hj0,hj⟩;clear hchk hK hIH hP hrests hsl hstep;rcases aF j p.length with hjl|hjl
    ·obtain⟨x,hx⟩:=gex hjl;have hlx:(p++more)[j]? =some x:=by rw[bD hjl];exact hx
     have hxr:x.get (4-k)=x0.get (4-k):=by rw[hp2 x (aI hx),hx0r]
     have hjl2:j<(p++more).length:=by rw[aC];omega
     obtain rfl|rfl|rfl|rfl|rfl:k=0\/k=1\/k=2\/k=3\/k=4:=by omega
     all_goals
      (repeat' ((conv=>whnf);first|(with_reducible first|refine hU hjl2 ?_|refine gT 0 rfl (by rw[aA];exact hpl0) ?_|refine hJ hlx ?_|refine hJ hlx0 ?_)|(refine in_c zd ?_)|(with_reducible refine eqv_R ?_)|refine zG ?_|apply zA|intro h|exact zT));all_goals conv=>whnf
      all_goals first
       |(exfalso;exact h hxr)
       |(refine⟨j+1,by omega,by omega,?_⟩
         rw[aO,aN];(exact leA))
    ·have hjp:j=p.length:=by omega
     subst hjp;rcases hends with hend|⟨w,hlw,hne⟩
     ·subst hend;rw[bF]at*;(repeat' ((conv=>whnf);first|refine zG ?_|apply zA|intro h|exact zT));all_goals conv=>whnf
      refine⟨(),trivial,?_⟩;exact leA
     ·have hlwl:p.length<(p++more).length:=(aP.1 hlw).1;obtain rfl|rfl|rfl|rfl|rfl:k=0\/k=1\/k=2\/k=3\/k=4:=by omega
      all_goals
       (repeat' ((conv=>whnf);first|(with_reducible first|refine hU hlwl ?_|refine gT 0 rfl (by rw[aA];exact hpl0) ?_|refine hJ hlw ?_|refine hJ hlx0 ?_)|(refine in_c zd ?_)|(with_reducible refine eqv_R ?_)|refine zG ?_|apply zA|intro h|exact zT));all_goals conv=>whnf
       all_goals first
        |(exfalso;exact hne h)
        |(refine⟨(),trivial,?_⟩
          (exact leA))
   refine Jn.at ⟨2,[(1,.box [.v (.int .u32 (x0.get (4-k)).lo),.v (.int .u32 (x0.get (4-k)).hi),encXs (p.map (zeroTo k))]),(0,.box [.v (.int .u32 lo),.v (.int .u32 hi),.nils])],[(0,.v (.int .i64 ((4-k:Nat):Int))),(1,encXs (p++more)),(5,.op 0 0),(6,.v (.int .i64 p.length)),(7,.op 1 0)]⟩ ?_ ?_
   ·clear hchk hK hIH hP hstep;obtain rfl|rfl|rfl|rfl|rfl:k=0\/k=1\/k=2\/k=3\/k=4:=by omega
    all_goals
     (repeat' ((conv=>whnf);first|(with_reducible first|refine gT 0 rfl (by rw[aA];exact hpl0) ?_|refine hJ hlx0 ?_)|(refine in_c zd ?_)|(with_reducible first|refine gY 0 p.length rfl rfl zo (by rw[aA,aC];omega) ?_|refine hsl ?_|refine hrests ?_)|refine zG ?_|apply zA|intro h|exact zT));all_goals conv=>whnf
     all_goals
      refine⟨(),trivial,?_⟩;exact leA
   have hj:=hjoin false (by rw[hl0];rfl);have hx0s:=hx0r.symm;clear hx0r hp2;(repeat' ((conv=>whnf);first|(with_reducible first|refine hsl ?_|refine hcan ?_|refine hsl2 ?_|refine gY 0 p.length rfl rfl zo (by rw[aA,aC];omega) ?_|refine gY p.length (p++more).length rfl (by rw[aA]) (by rw[aC];omega) (by rw[aA];exact aM _) ?_)|refine zG ?_|apply zA|intro h|exact zT));all_goals conv=>whnf
   all_goals first
    |exact fin_f hK (by rw[hj];simp[*])
    |(refine⟨(r+1,(x0.get (4-k)).lo,(x0.get (4-k)).hi,encXs (p.map (zeroTo k))),⟨hrl,?_,.inr ⟨?_,?_,?_⟩⟩,?_,?_⟩
      ·simp only;rw[hlast1,hj];simp[*]<;>(intros;omega)
      ·simp only;rw[hlast1];exact hp1
      ·simp only;rw[hlast1,hx0s]
      ·simp only;rw[hlast1];omega
      ·simp only;omega
      ·simp only;rw[hmore];(exact leA))
  ·simp only[Prod.mk.injEq]at heq;obtain⟨rfl,rfl,rfl⟩:=heq;(repeat' ((conv=>whnf);first|refine zG ?_|apply zA|intro h|exact zT));all_goals conv=>whnf
   refine Jn.at ⟨1,[(0,.box [.v (.int .u32 (rgOf (4-k) (lastRun ps r)).lo),.v (.int .u32 (rgOf (4-k) (lastRun ps r)).hi),encXs ((lastRun ps r).map (zeroTo k))])],[(0,.v (.int .i64 ((4-k:Nat):Int))),(1,encXs (p++more)),(5,.op 0 0),(6,.v (.int .i64 p.length))]⟩ ?_ ?_
   ·(repeat' ((conv=>whnf);first|refine zG ?_|apply zA|intro h|exact zT));all_goals conv=>whnf
    refine gL Nat (fun j=>⟨1,[(0,.box [.v (.int .u32 (rgOf (4-k) (lastRun ps r)).lo),.v (.int .u32 (rgOf (4-k) (lastRun ps r)).hi),encXs ((lastRun ps r).map (zeroTo k))])],[(0,.v (.int .i64 ((4-k:Nat):Int))),(1,encXs (p++more)),(5,.op 0 0),(6,.v (.int .i64 j))]⟩) (fun j=>1<=j/\j<=p.length) (fun j=>p.length-j) 1 ⟨aM _,hplen⟩ ?_ ?_
    ·exact leA
    intro j ⟨hj0,hj⟩;clear hchk hK hIH hP hrests hsl hstep;rcases aF j p.length with hjl|hjl
    ·obtain⟨x,hx⟩:=gex hjl;have hlx:(p++more)[j]? =some x:=by rw[bD hjl];exact hx
     have hxr:x.get (4-k)=x0.get (4-k):=by rw[hp2 x (aI hx),hx0r]
     have hjl2:j<(p++more).length:=by rw[aC];omega
     obtain rfl|rfl|rfl|rfl|rfl:k=0\/k=1\/k=2\/k=3\/k=4:=by omega
     all_goals
      (repeat' ((conv=>whnf);first|(with_reducible first|refine hU hjl2 ?_|refine gT 0 rfl (by rw[aA];exact hpl0) ?_|refine hJ hlx ?_|refine hJ hlx0 ?_)|(refine in_c zd ?_)|(with_reducible refine eqv_R ?_)|refine zG ?_|apply zA|intro h|exact zT));all_goals conv=>whnf
      all_goals first
       |(exfalso;exact h hxr)
       |(refine⟨j+1,by omega,by omega,?_⟩
         rw[aO,aN];(exact leA))
    ·have hjp:j=p.length:=by omega
     subst hjp;rcases hends with hend|⟨w,hlw,hne⟩
     ·subst hend;rw[bF]at*;(repeat' ((conv=>whnf);first|refine zG ?_|apply zA|intro h|exact zT));all_goals conv=>whnf
      refine⟨(),trivial,?_⟩;exact leA
     ·have hlwl:p.length<(p++more).length:=(aP.1 hlw).1;obtain rfl|rfl|rfl|rfl|rfl:k=0\/k=1\/k=2\/k=3\/k=4:=by omega
      all_goals
       (repeat' ((conv=>whnf);first|(with_reducible first|refine hU hlwl ?_|refine gT 0 rfl (by rw[aA];exact hpl0) ?_|refine hJ hlw ?_|refine hJ hlx0 ?_)|(refine in_c zd ?_)|(with_reducible refine eqv_R ?_)|refine zG ?_|apply zA|intro h|exact zT));all_goals conv=>whnf
       all_goals first
        |(exfalso;exact hne h)
        |(refine⟨(),trivial,?_⟩
          (exact leA))
   refine Jn.at ⟨2,[(1,.box [.v (.int .u32 (x0.get (4-k)).lo),.v (.int .u32 (x0.get (4-k)).hi),encXs (p.map (zeroTo k))]),(0,.box [.v (.int .u32 (rgOf (4-k) (lastRun ps r)).lo),.v (.int .u32 (rgOf (4-k) (lastRun ps r)).hi),encXs ((lastRun ps r).map (zeroTo k))])],[(0,.v (.int .i64 ((4-k:Nat):Int))),(1,encXs (p++more)),(5,.op 0 0),(6,.v (.int .i64 p.length)),(7,.op 1 0)]⟩ ?_ ?_
   ·clear hchk hK hIH hP hstep;obtain rfl|rfl|rfl|rfl|rfl:k=0\/k=1\/k=2\/k=3\/k=4:=by omega
    all_goals
     (repeat' ((conv=>whnf);first|(with_reducible first|refine gT 0 rfl (by rw[aA];exact hpl0) ?_|refine hJ hlx0 ?_)|(refine in_c zd ?_)|(with_reducible first|refine gY 0 p.length rfl rfl zo (by rw[aA,aC];omega) ?_|refine hsl ?_|refine hrests ?_)|refine zG ?_|apply zA|intro h|exact zT));all_goals conv=>whnf
     all_goals
      refine⟨(),trivial,?_⟩;exact leA
   have h1:=(rgOf (4-k) (lastRun ps r)).h1;have h0:=(rgOf (4-k) (lastRun ps r)).h0;have hlen:0<(((lastRun ps r).map (zeroTo k)).map encX).length:=by rw[aA,aA];exact dA.2 hl0
   have hjb:joinB (4-k) (lastRun ps r) p=(decide ((x0.get (4-k)).lo<=(rgOf (4-k) (lastRun ps r)).hi)||(decide ((x0.get (4-k)).lo=(rgOf (4-k) (lastRun ps r)).hi+1)&&decide (p.map (zeroTo k)=(lastRun ps r).map (zeroTo k)))):=by
    rw[joinB,hal,hx0r];have:(lastRun ps r).isEmpty=false:=by cases hq:lastRun ps r with
     |nil=>exact absurd hq hl0
     |cons=>rfl
    rw[this,decide_eq_decide.2 (eq_comm (a:=(lastRun ps r).map (zeroTo k)))];rfl
   have hj:=hjoin _ hjb;have hx0s:=hx0r.symm;clear hjoin hjb hstep hx0r hp2;(repeat' ((conv=>whnf);first|(with_reducible first|refine hsl ?_|refine hcan ?_|refine hsl2 ?_|refine gY 0 p.length rfl rfl zo (by rw[aA,aC];omega) ?_|refine gY p.length (p++more).length rfl (by rw[aA]) (by rw[aC];omega) (by rw[aA];exact aM _) ?_|refine cxEqB _ _ (by rw[aA];omega) (by rw[aA];omega) ?_)|refine zG ?_|apply zA|intro h|exact zT));all_goals conv=>whnf
   all_goals first
    |exact fin_f hK (by rw[hj];simp[*])
    |(refine⟨(r+1,(x0.get (4-k)).lo,(x0.get (4-k)).hi,encXs (p.map (zeroTo k))),⟨hrl,?_,.inr ⟨?_,?_,?_⟩⟩,?_,?_⟩
      ·simp only;rw[hlast1,hj];simp[*]<;>(intros;omega)
      ·simp only;rw[hlast1];exact hp1
      ·simp only;rw[hlast1,hx0s]
      ·simp only;rw[hlast1];omega
      ·simp only;omega
      ·simp only;rw[hmore];(exact leA))
 ·have e:ps.drop r=[]:=bU hrl;rw[e,chkR]at hchk;rw[e,List.flatten_nil];rcases hlast with⟨hl0,rfl⟩|⟨hl0,heq,hll⟩
  ·(repeat' ((conv=>whnf);first|refine zG ?_|apply zA|intro h|exact zT));all_goals conv=>whnf
   exact fin_t hK hchk
  ·simp only[Prod.mk.injEq]at heq;obtain⟨rfl,rfl,rfl⟩:=heq;(repeat' ((conv=>whnf);first|refine zG ?_|apply zA|intro h|exact zT));all_goals conv=>whnf
   exact fin_t hK hchk
theorem cxDiv:∀(k:Nat),k<=5->∀(l:List Bx) {K:KT},l.length<1000000000->(k=0->l≠[])->K (.sb (canB k l)) []->AC 188 [.v (.int .i64 ((5-k:Nat):Int)),encXs l] [] K
 |0,_,l,K,hl,hne,hK=>by
  refine gO (ofxDiv rfl rfl ?_);(repeat' ((conv=>whnf);first|refine zG ?_|apply zA|intro h|exact zT));all_goals conv=>whnf
  refine fin_s hK ?_;have:=dA.2 (hne rfl);rw[canB,aA,bJ,beq_iff_eq,aL];omega
 |k+1,hk,l,K,hl,hne,hK=>by
  rw[show 5-(k+1)=4-k by omega];refine div_step k zo (fun l K h1 h2 h3=>?_) l hl hK;rw[show((4-k:Nat):Int)+1=((5-k:Nat):Int) by omega];exact cxDiv k zo l h1 (fun _=>h2) h3
theorem cxVald(l:List Bx)(hl:l.length<1000000000){K:KT}(hK:K (.sb (setB l)) []):AC 105 [encXs l] [] K:=by
 have hc:∀{K:KT},K (.sb (canB 5 l)) []->AC 188 [.v (.int .i64 0),encXs l] [] K:=fun h=>cxDiv 5 (aM _) l hl zo h;refine gO (ofxVald rfl rfl ?_);unfold setB at hK;(repeat' ((conv=>whnf);first|(with_reducible first|refine cxVal l zo ?_|refine hc ?_)|refine zG ?_|apply zA|intro h|exact zT));all_goals conv=>whnf
 all_goals
  simp only[aA]at*;first
   |exact fin_s hK (by rw[decide_eq_true zo,decide_eq_true zo];rfl)
   |exact fin_f hK (by rw[decide_eq_true zo,decide_eq_false zo];rfl)
   |exact fin_f hK (by rw[decide_eq_false zo];rfl)
end Go.Proofs.YtnomkooikbhgmaaGreatDoor
