/- slices.Compact of uint64. -/
import Derived.Test.YtahhamfngafmcaaGreatDoorM20
set_option linter.unusedVariables false
set_option linter.unusedSimpArgs false
set_option maxRecDepth 100000
set_option maxHeartbeats 4000000
namespace Go.Proofs.YtahhamfngafmcaaGreatDoor
open Go Go.Vm
def compS(acc:List Int)(x:Int):List Int:=if acc.getLast?=some x then acc else acc++[x]
def comp(l:List Int):List Int:=l.foldl compS []
theorem comp_succ{l:List Int}{r:Nat}{x:Int}(h:l[r]? =some x):comp (l.take (r+1))=compS (comp (l.take r)) x:=by
 simp[comp,List.take_add_one,h]
theorem comp_last:∀(l:List Int) {r:Nat} {x:Int},l[r]? =some x->(comp (l.take (r+1))).getLast?=some x:=by
 intro l r x h
 rw[comp_succ h,compS]
 split
 ·assumption
 ·simp
theorem comp_next{l:List Int}{r:Nat}{x y:Int}(h:l[r]? =some x)(h1:l[r+1]? =some y):comp (l.take (r+2))=if x=y then comp (l.take (r+1))else comp (l.take (r+1))++[y]:=by
 rw[comp_succ h1,compS,comp_last l h]
 simp only[Option.some.injEq]
theorem csComp(l:List Int)(hl:l.length<1000000000000){K:KT}(hK:∀zs,K (.os 0 1 0 (comp l).length) [.arr 1 ((comp l).map encZ++zs)]):
  ACall Tryz.prog 246 [.os 0 1 0 l.length] [.arr 1 (l.map encZ)] K:=by
 refine ofsComp rfl rfl ?_
 rcases Nat.lt_or_ge l.length 2 with h2|h2
 ·have e:comp l=l:=by
   rcases l with _|⟨x,_|⟨y,l⟩⟩
   ·rfl
   ·rfl
   ·simp only[List.length_cons]at h2;omega
  have:=hK []
  rw[e,List.append_nil]at this
  (repeat' ((conv=>whnf);first|refine zG ?_|apply zA|(apply zI;intro h)|exact zT));(all_goals conv=>whnf)
  exact this
 ·(repeat' ((conv=>whnf);first|refine zG ?_|apply zA|(apply zI;intro h)|exact zT));(all_goals conv=>whnf)
  refine Lp.intro Nat (fun k=>⟨1,[(0,.arr 1 (l.map encZ))],[(0,.os 0 1 0 l.length),(3,.v (.int .i64 k))]⟩) (fun k=>1<=k/\k<=l.length/\comp (l.take k)=l.take k) (fun k=>l.length-k) 1 ⟨Nat.le_refl _,by omega,?_⟩ ?_ ?_
  ·rcases l with _|⟨x,l⟩
   ·exact absurd h2 zx
   ·rfl
  ·(exact leA)
  intro k ⟨hk1,hk2,hk3⟩
  rcases Nat.lt_or_ge k l.length with hkl|hkl
  ·obtain⟨m,rfl⟩:∃m,k=m+1:=⟨k-1,by omega⟩
   obtain⟨x,hx⟩:∃x,l[m]? =some x:=⟨_,List.getElem?_eq_getElem zo⟩
   obtain⟨y,hy⟩:∃y,l[m+1]? =some y:=⟨_,List.getElem?_eq_getElem hkl⟩
   have hx0:l[0+m]? =some x:=by rw[Nat.zero_add];exact hx
   have hy0:l[0+(m+1)]? =some y:=by rw[Nat.zero_add];exact hy
   have hn:=comp_next hx hy
   (repeat' ((conv=>whnf);first|(with_reducible refine in_nat hkl ?_)|(refine In.intro m zo zo ?_)|(with_reducible first|refine ix_map hx0 ?_|refine ix_map hy0 ?_)|(refine Sb.intro (m+1) l.length rfl rfl zo (Nat.le_refl _) ?_)|refine zG ?_|apply zA|(apply zI;intro h)|exact zT));(all_goals conv=>whnf)
   ·have hxy:x=y:=h.symm
    rw[if_pos hxy,hk3]at hn
    refine Lp.intro Nat (fun q=>⟨1,[(0,.arr 1 ((comp (l.take (m+2+q))++l.drop (comp (l.take (m+2+q))).length).map encZ))],[(0,.os 0 1 0 l.length),(3,.v (.int .i64 (comp (l.take (m+2+q))).length)),(4,.os 0 1 (0+(m+1)) (l.length-(m+1))),(5,.v (.int .i64 ((q+1:Nat):Int)))]⟩) (fun q=>m+2+q<=l.length/\(comp (l.take (m+2+q))).length<m+2+q) (fun q=>l.length-q) 0 ⟨by omega,by rw[Nat.add_zero,hn,List.length_take];omega⟩ ?_ ?_
    ·have e1:(l.take (m+1)).length=m+1:=by rw[List.length_take];omega
     rw[Nat.add_zero,hn,e1,List.take_append_drop]
     (exact leA)
    intro q ⟨hq1,hq2⟩
    obtain⟨C,hC⟩:∃C,C=comp (l.take (m+2+q)):=⟨_,rfl⟩
    rw[<-hC]at hq2⊢
    rcases Nat.lt_or_ge (m+2+q) l.length with hql|hql
    ·obtain⟨u,hu⟩:∃u,l[m+1+q]? =some u:=⟨_,List.getElem?_eq_getElem zo⟩
     obtain⟨v,hv⟩:∃v,l[m+1+q+1]? =some v:=⟨_,List.getElem?_eq_getElem zo⟩
     have hnx:=comp_next hu hv
     rw[show m+1+q+2=m+2+(q+1) by omega,show m+1+q+1=m+2+q by omega,<-hC]at hnx
     have hget:∀i,C.length<=i->(C++l.drop C.length)[i]? =l[i]? :=fun i hi=>by
      rw[List.getElem?_append_right hi,List.getElem?_drop]
      congr 1;omega
     have hu0:(C++l.drop C.length)[0+(m+1)+q]? =some u:=by rw[Nat.zero_add,hget _ zo];exact hu
     have hv0:(C++l.drop C.length)[0+(m+1)+(q+1)]? =some v:=by rw[Nat.zero_add,hget _ zo];exact hv
     obtain⟨z,hz⟩:∃z,l[C.length]? =some z:=⟨_,List.getElem?_eq_getElem zo⟩
     have hz0:(C++l.drop C.length)[0+C.length]? =some z:=by rw[Nat.zero_add,hget _ (Nat.le_refl _)];exact hz
     have hCn:C.length<l.length:=by omega
     have hdr:l.drop C.length=z::l.drop (C.length+1):=by
      rw[List.getElem?_eq_getElem hCn]at hz
      rw[<-Option.some.inj hz,<-List.drop_eq_getElem_cons hCn]
     have hset:((C++l.drop C.length).map encZ).set (0+C.length) (encZ v)=((C++[v])++l.drop (C++[v]).length).map encZ:=by
      rw[Nat.zero_add,<-List.map_set,List.set_append_right _ _ (Nat.le_refl _),Nat.sub_self,hdr]
      simp
     (repeat' ((conv=>whnf);first|(refine In.intro q zo zo ?_)|(refine In.intro (q+1) zo zo ?_)|(with_reducible first|refine in_nat hCn ?_|refine ix_map hu0 ?_|refine ix_map hv0 ?_|refine ix_map hz0 ?_)|refine zG ?_|apply zA|(apply zI;intro h)|exact zT));(all_goals conv=>whnf)
     all_goals first
      |(rw[if_neg (fun e=>h e.symm)]at hnx
        refine⟨q+1,⟨by omega,by rw[hnx,List.length_append];simp;omega⟩,by omega,?_⟩
        rw[hnx,hset,show((C++[v]).length:Int)=(C.length:Int)+1 by simp,show((q+1+1:Nat):Int)=((q+1:Nat):Int)+1 by omega]
        (exact leA)
        done)
      |(rw[if_pos (by first|exact h.symm|exact(Decidable.not_not.1 h).symm)]at hnx
        refine⟨q+1,⟨by omega,by rw[hnx];omega⟩,by omega,?_⟩
        rw[hnx,show((q+1+1:Nat):Int)=((q+1:Nat):Int)+1 by omega]
        (exact leA))
    ·have hCl:C=comp l:=by rw[hC,List.take_of_length_le hql]
     have hCn:C.length<=l.length:=by omega
     (repeat' ((conv=>whnf);first|(refine Sb.intro C.length l.length rfl rfl hCn (Nat.le_refl _) ?_)|(refine Sb.intro 0 C.length rfl rfl (Nat.zero_le _) hCn ?_)|refine zG ?_|apply zA|(apply zI;intro h)|exact zT));(all_goals conv=>whnf)
     have e1:(List.map encZ (C++l.drop C.length)).take (0+C.length)=C.map encZ:=by
      rw[Nat.zero_add,List.map_append,List.take_left' zx]
     rw[e1,Nat.add_zero,Nat.sub_zero,hCl]
     exact hK _
   ·refine⟨m+2,⟨by omega,by omega,?_⟩,by omega,?_⟩
    ·rw[hn,if_neg (fun e=>h e.symm),hk3,List.take_add_one (i:=m+1),hy]
     rfl
    ·rw[show((m+2:Nat):Int)=((m+1:Nat):Int)+1 by omega]
     (exact leA)
  ·have e:comp l=l:=by rw[List.take_of_length_le hkl]at hk3;exact hk3
   have:=hK []
   rw[e,List.append_nil]at this
   (repeat' ((conv=>whnf);first|refine zG ?_|apply zA|(apply zI;intro h)|exact zT));(all_goals conv=>whnf)
   exact this
theorem comp_take_mem(l:List Int):∀r,r<=l.length->∀z,z∈comp (l.take r)↔z∈l.take r:=by
 intro r
 induction r with
 |zero=>intro _ z;simp[comp]
 |succ r ih=>
  intro hr z
  obtain⟨x,hx⟩:∃x,l[r]? =some x:=⟨_,List.getElem?_eq_getElem zo⟩
  rw[comp_succ hx,compS,List.take_add_one,hx]
  have h:=ih zo z
  split
  ·rename_i hl
   have:x∈comp (l.take r):=List.mem_of_getLast? hl
   simp only[Option.toList_some,List.mem_append,List.mem_singleton,h]
   constructor
   ·intro h;exact .inl h
   ·rintro(h|rfl)
    ·exact h
    ·exact(ih zo z).1 this
  ·simp[h]
theorem comp_mem{l:List Int}{z:Int}:z∈comp l↔z∈l:=by
 have:=comp_take_mem l l.length (Nat.le_refl _) z
 rwa[List.take_length]at this
theorem comp_take_lt{l:List Int}(h:l.Pairwise (· <= ·)):∀r,r<=l.length->(comp (l.take r)).Pairwise (· < ·):=by
 intro r
 induction r with
 |zero=>intro _;simp[comp]
 |succ r ih=>
  intro hr
  obtain⟨x,hx⟩:∃x,l[r]? =some x:=⟨_,List.getElem?_eq_getElem zo⟩
  rw[comp_succ hx,compS]
  have h0:=ih zo
  split
  ·exact h0
  ·rename_i hl
   rw[List.pairwise_append]
   refine⟨h0,by simp,fun a ha b hb=>?_⟩
   rw[List.mem_singleton]at hb
   subst hb
   have ha':=(comp_take_mem l r zo a).1 ha
   have hle:∀c,c∈l.take r->c<=b:=fun c hc=>by
    have h1:(l.take (r+1)).Pairwise (· <= ·):=h.sublist (List.take_sublist _ _)
    rw[List.take_add_one,hx]at h1
    exact(List.pairwise_append.1 h1).2.2 c hc b zx
   have hne:a≠b:=by
    rintro rfl
    obtain⟨i,g,hg⟩:∃i g,comp (l.take r)=i++[g]:=by
     rcases List.eq_nil_or_concat (comp (l.take r))with h|⟨i,g,h⟩
     ·rw[h]at ha;simp at ha
     ·exact⟨i,g,by rw[h,List.concat_eq_append]⟩
    rw[hg]at hl ha h0
    simp only[List.getLast?_append,List.getLast?_singleton,Option.some_or,Option.some.injEq]at hl
    have hgl:g<=a:=hle g ((comp_take_mem l r zo g).1 (by rw[hg];simp))
    rcases List.mem_append.1 ha with ha|ha
    ·have:=(List.pairwise_append.1 h0).2.2 a ha g zx
     omega
    ·rw[List.mem_singleton]at ha
     exact hl ha.symm
   have:=hle a ha'
   omega
theorem comp_lt{l:List Int}(h:l.Pairwise (· <= ·)):(comp l).Pairwise (· < ·):=by
 have:=comp_take_lt h l.length (Nat.le_refl _)
 rwa[List.take_length]at this
theorem endsB_succ{f:Nat}{l:List Bx}{k:Nat}{x:Bx}(h:l[k]? =some x):endsB f (l.take (k+1))=endsB f (l.take k)++[(x.get f).lo,(x.get f).hi+1]:=by
 simp[endsB,List.take_add_one,h]
theorem endsB_len(f:Nat)(l:List Bx):(endsB f l).length=2*l.length:=by
 induction l with
 |nil=>rfl
 |cons x l ih=>rw[endsB,List.flatMap_cons,List.length_append];rw[endsB]at ih;rw[ih,List.length_cons];simp;omega
theorem cxCuts(a b:List Bx)(f:Nat)(hf:f<=4)(ha:a.length<1000000000)(hb:b.length<1000000000){K:KT}
  (hK:∀st:List Int,st.Pairwise (· < ·)->(∀z,z∈st↔z=0\/z=topF f+1\/z∈endsB f a\/z∈endsB f b)->K (.lst (st.map encZ)) []):
  ACall Tryz.prog 232 [.v (.int .i64 f),.lst [encXs a,encXs b]] [] K:=by
 refine ofxCuts rfl rfl ?_
 have hTop:∀{K:KT},K (.v (.int .u32 (topF f))) []->ACall Tryz.prog 153 [.v (.int .i64 f)] [] K:=fun h=>cxTop _ (by rw[topI_nat hf];exact h)
 have ht:=topF_pos f
 (repeat' ((conv=>whnf);first|(with_reducible refine hTop ?_)|refine zG ?_|apply zA|(apply zI;intro h)|exact zT));(all_goals conv=>whnf)
 refine Lp.times 3 ?_
 (repeat' ((conv=>whnf);first|(refine in_c rfl ?_)|(refine Ix.intro rfl ?_)|refine zG ?_|apply zA|(apply zI;intro h)|exact zT));(all_goals conv=>whnf)
 refine Lp.intro Nat (fun k=>⟨1,[(0,.arr 1 (([0,topF f+1]++endsB f (a.take k)).map encZ))],[(0,.v (.int .i64 f)),(5,.os 0 1 0 ([0,topF f+1]++endsB f (a.take k)).length),(15,.lst [encXs a,encXs b]),(16,.v (.int .i64 (([encXs a,encXs b].length:Nat):Int))),(17,.v (.int .i64 (0))),(21,encXs a),(22,.v (.int .i64 ((a.map encX).length:Nat))),(23,.v (.int .i64 k))]⟩) (fun k=>k<=a.length) (fun k=>a.length-k) 0 (Nat.zero_le _) ?_ ?_
 ·rw[List.take_zero,show endsB f []=[]from rfl,List.append_nil]
  (exact leA)
 intro k hk
 rcases Nat.lt_or_ge k a.length with hkl|hkl
 ·obtain⟨x,hx⟩:=gex hkl
  have hs:=endsB_succ (f:=f) hx
  have hlen:([0,topF f+1]++endsB f (a.take k)).length<=4000000010:=by
   have h1:=endsB_len f (a.take k)
   have h2:=endsB_len f a
   rw[List.length_take]at h1
   simp only[List.length_append,List.length_cons,List.length_nil]
   omega
  have hr:((x.get f).hi<=4294967295/\0<=(x.get f).hi)/\(x.get f).lo<=4294967295/\0<=(x.get f).lo:=⟨⟨(x.get f).h1,(x.get f).h0⟩,(x.get f).l1,(x.get f).l0⟩
  obtain⟨⟨hr1,hr2⟩,hr3,hr4⟩:=hr
  have happ:(([0,topF f+1]++endsB f (a.take (k+1))).map encZ)=(([0,topF f+1]++endsB f (a.take k)).map encZ)++[encZ (x.get f).lo,encZ ((x.get f).hi+1)]:=by
   rw[hs,<-List.append_assoc,List.map_append];rfl
  have hll:([0,topF f+1]++endsB f (a.take (k+1))).length=([0,topF f+1]++endsB f (a.take k)).length+2:=by
   rw[hs,<-List.append_assoc,List.length_append];rfl
  generalize hA:([0,topF f+1]++endsB f (a.take k))=A at*
  generalize hB:([0,topF f+1]++endsB f (a.take (k+1)))=B at*
  rcases f with _|_|_|_|_|f
  case succ.succ.succ.succ.succ=>omega
  all_goals
   simp only[Bx.get]at happ hr1 hr2 hr3 hr4
   (repeat' ((conv=>whnf);first|(with_reducible first|refine in_map hkl ?_|refine ix_map hx ?_)|(refine in_c zd ?_)|refine zG ?_|apply zA|(apply zI;intro h)|exact zT));(all_goals conv=>whnf)
   refine⟨k+1,by omega,by omega,?_⟩
   rw[hB,happ,hll]
   (exact leA)
 ·rw[List.take_of_length_le hkl]
  (repeat' ((conv=>whnf);first|(refine in_c rfl ?_)|(refine Ix.intro rfl ?_)|refine zG ?_|apply zA|(apply zI;intro h)|exact zT));(all_goals conv=>whnf)
  refine Lp.intro Nat (fun k=>⟨1,[(0,.arr 1 ((([0,topF f+1]++endsB f a)++endsB f (b.take k)).map encZ))],[(0,.v (.int .i64 f)),(5,.os 0 1 0 (([0,topF f+1]++endsB f a)++endsB f (b.take k)).length),(15,.lst [encXs a,encXs b]),(16,.v (.int .i64 (([encXs a,encXs b].length:Nat):Int))),(17,.v (.int .i64 (0+1))),(21,encXs b),(22,.v (.int .i64 ((b.map encX).length:Nat))),(23,.v (.int .i64 k))]⟩) (fun k=>k<=b.length) (fun k=>b.length-k) 0 (Nat.zero_le _) ?_ ?_
  ·rw[List.take_zero,show endsB f []=[]from rfl,List.append_nil]
   (exact leA)
  intro k hk
  rcases Nat.lt_or_ge k b.length with hkl|hkl
  ·obtain⟨x,hx⟩:=gex hkl
   have hs:=endsB_succ (f:=f) hx
   have hlen:(([0,topF f+1]++endsB f a)++endsB f (b.take k)).length<=4000000010:=by
    have h1:=endsB_len f (b.take k)
    have h2:=endsB_len f a
    rw[List.length_take]at h1
    simp only[List.length_append,List.length_cons,List.length_nil]
    omega
   have hr:((x.get f).hi<=4294967295/\0<=(x.get f).hi)/\(x.get f).lo<=4294967295/\0<=(x.get f).lo:=⟨⟨(x.get f).h1,(x.get f).h0⟩,(x.get f).l1,(x.get f).l0⟩
   obtain⟨⟨hr1,hr2⟩,hr3,hr4⟩:=hr
   have happ:((([0,topF f+1]++endsB f a)++endsB f (b.take (k+1))).map encZ)=((([0,topF f+1]++endsB f a)++endsB f (b.take k)).map encZ)++[encZ (x.get f).lo,encZ ((x.get f).hi+1)]:=by
    rw[hs,<-List.append_assoc,List.map_append];rfl
   have hll:(([0,topF f+1]++endsB f a)++endsB f (b.take (k+1))).length=(([0,topF f+1]++endsB f a)++endsB f (b.take k)).length+2:=by
    rw[hs,<-List.append_assoc,List.length_append];rfl
   generalize hA:(([0,topF f+1]++endsB f a)++endsB f (b.take k))=A at*
   generalize hB:(([0,topF f+1]++endsB f a)++endsB f (b.take (k+1)))=B at*
   rcases f with _|_|_|_|_|f
   case succ.succ.succ.succ.succ=>omega
   all_goals
    simp only[Bx.get]at happ hr1 hr2 hr3 hr4
    (repeat' ((conv=>whnf);first|(with_reducible first|refine in_map hkl ?_|refine ix_map hx ?_)|(refine in_c zd ?_)|refine zG ?_|apply zA|(apply zI;intro h)|exact zT));(all_goals conv=>whnf)
    refine⟨k+1,by omega,by omega,?_⟩
    rw[hB,happ,hll]
    (exact leA)
  ·rw[List.take_of_length_le hkl]
   have hl:([0,topF f+1]++endsB f a++endsB f b).length<1000000000000:=by
    have h1:=endsB_len f a
    have h2:=endsB_len f b
    simp only[List.length_append,List.length_cons,List.length_nil]
    omega
   (repeat' ((conv=>whnf);first|(with_reducible refine csSort _ hl fun l' hp hs=>?_)|refine zG ?_|apply zA|(apply zI;intro h)|exact zT));(all_goals conv=>whnf)
   have hll:([0,topF f+1]++endsB f a++endsB f b).length=l'.length:=hp.length_eq.symm
   rw[hll]at hl⊢
   (repeat' ((conv=>whnf);first|(with_reducible refine csComp l' hl fun zs=>?_)|refine zG ?_|apply zA|(apply zI;intro h)|exact zT));(all_goals conv=>whnf)
   refine Sl.intro (ys:=(comp l').map encZ) zx (by rw[List.drop_zero,List.take_left' zx]) ?_
   refine hK (comp l') (comp_lt hs) fun z=>?_
   rw[comp_mem,hp.mem_iff]
   simp only[List.mem_append,List.mem_cons,List.not_mem_nil,or_false,or_assoc]
theorem cxEqB(a b:List Bx)(ha:a.length<1000000000000)(hb:b.length<1000000000000){K:KT}(hK:K (.sb (decide (a=b))) []):ACall Tryz.prog 234 [encXs a,encXs b] [] K:=by
 refine ACall.bool (ofxEqB rfl rfl ?_)
 (repeat' ((conv=>whnf);first|refine zG ?_|apply zA|(apply zI;intro h)|exact zT));(all_goals conv=>whnf)
 ·have hl:a.length=b.length:=by
   rw[List.length_map,List.length_map]at h;omega
  refine Lp.intro Nat (fun k=>⟨0,[],[(0,encXs a),(1,encXs b),(12,.v (.int .i64 ((a.map encX).length:Nat))),(13,.v (.int .i64 k))]⟩) (fun k=>k<=a.length/\∀i,i<k->a[i]? =b[i]?) (fun k=>a.length-k) 0 ?_ ?_ ?_
  ·exact⟨Nat.zero_le _,fun i h=>absurd h (Nat.not_lt_zero _)⟩
  ·(exact leA)
  intro k ⟨hk,hinv⟩
  rcases Nat.lt_or_ge k a.length with hkl|hkl
  ·have hkb:k<b.length:=by omega
   obtain⟨p,hp⟩:=gex hkl
   obtain⟨q,hq⟩:=gex hkb
   (repeat' ((conv=>whnf);first|(with_reducible first|refine in_map hkl ?_|refine in_map hkb ?_|refine ix_map hp ?_|refine ix_map hq ?_|refine eqv_X ?_)|refine zG ?_|apply zA|(apply zI;intro h)|exact zT));(all_goals conv=>whnf)
   all_goals first
    |(refine⟨k+1,⟨by omega,fun i hi=>?_⟩,by omega,?_⟩
      ·rcases Nat.lt_or_ge i k with h1|h1
       ·exact hinv i h1
       ·rw[show i=k by omega,hp,hq,h]
      ·rw[Int.natCast_add,Int.natCast_one]
       (exact leA))
    |(refine fin_f hK (decide_eq_false fun e=>?_)
      subst e
      rw[hp]at hq;cases hq
      exact h rfl)
  ·have hab:a=b:=by
    apply List.ext_getElem?
    intro i
    rcases Nat.lt_or_ge i k with h1|h1
    ·exact hinv i h1
    ·rw[List.getElem?_eq_none zo,List.getElem?_eq_none zo]
   (repeat' ((conv=>whnf);first|refine zG ?_|apply zA|(apply zI;intro h)|exact zT));(all_goals conv=>whnf)
   exact fin_t hK (decide_eq_true hab)
 ·exact fin_f hK (decide_eq_false fun e=>h (by rw[e]))
noncomputable abbrev encG(g:Grp (List Bx)):AV:=.agg [.v (.int .u32 g.lo),.v (.int .u32 g.hi),encXs g.val]
def Opf(f:FuncId)(op:Bool->Bool->Bool):Prop:=∀(x y:Bool) {K:KT},K (.sb (op x y)) []->ACall Tryz.prog f [.sb x,.sb y] [] K
theorem Opf.ap{f:FuncId}{op:Bool->Bool->Bool}(h:Opf f op)(x y:Bool){K:KT}(hK:K (.sb (op x y)) []):ACall Tryz.prog f [.sb x,.sb y] [] K:=h x y hK
theorem Opf.ff{f:FuncId}{op:Bool->Bool->Bool}(h:Opf f op){K:KT}(hK:K (.sb (op false false)) []):ACall Tryz.prog f [.v (.bool false),.v (.bool false)] [] K:=
 ACall.args (ys:=[.sb false,.sb false]) ⟨Weak.bool,Weak.bool,trivial⟩ (h false false hK)
theorem opf_either:Opf 156 orB:=fun x y K hK=>cxEither x y hK
theorem opf_both:Opf 155 anB:=fun x y K hK=>cxBoth x y hK
theorem opf_without:Opf 171 woB:=fun x y K hK=>cxWout x y hK
theorem sl_app{xs zs:List AV}{n:Nat}{K:List AV->Prop}(h:xs.length=n)(hk:K xs):Sl (xs++zs) 0 n K:=
 Sl.intro (by rw[List.length_append];omega) (by rw[List.drop_zero,List.take_left' h]) hk
theorem sorted_len{M:Int}:∀(l:List Int) (c:Int),c<=M+1->l.Pairwise (· < ·)->(∀x,x∈l->c<=x/\x<=M)->c+l.length<=M+1
 |[],c,hc,_,_=>by simpa using hc
 |x::l,c,hc,hp,h=>by
  obtain⟨h1,h2⟩:=List.pairwise_cons.1 hp
  have hx:=h x zx
  have h3:∀y,y∈l->x+1<=y/\y<=M:=fun y hy=>by have:=h1 y hy;have:=h y (List.mem_cons_of_mem _ hy);omega
  have:=sorted_len l (x+1) zo h2 h3
  rw[List.length_cons]
  omega
theorem gs_len{gs:List (Grp (List Bx))}(h:∀g,g∈gs->g.val≠[]):gs.length<=sizeG gs:=by
 induction gs with
 |nil=>exact Nat.zero_le _
 |cons g gs ih=>
  have h1:=ih fun x hx=>h x (List.mem_cons_of_mem _ hx)
  have h2:1<=g.val.length:=by
   have:=h g zx
   cases hv:g.val with
   |nil=>exact absurd hv this
   |cons=>simp
  simp only[sizeG,List.map_cons,List.sum_cons,List.length_cons]at*
  omega
theorem can_step(fn:FuncId)(op:Bool->Bool->Bool)(hop:Opf fn op)(most:Nat)(hm1:1<=most)(hm2:most<1000000000)(k:Nat)(hk:k<=4)
  (hIH:∀(a b:List Bx) {K:KT},okL a->okL b->a.length<1000000000->b.length<1000000000->K (.tup [encXs (if(cano op k a b).length<=most then cano op k a b else []),.sb (decide ((cano op k a b).length<=most))]) []->ACall Tryz.prog 211 [.v (.int .i64 (((4-k:Nat):Int)+1)),encXs a,encXs b,.fn (.func fn) [] [],.v (.int .i64 most)] [] K)
  (a b:List Bx){K:KT}(hoa:okL a)(hob:okL b)(ha:a.length<1000000000)(hb:b.length<1000000000)(hK:K (.tup [encXs (if(cano op (k+1) a b).length<=most then cano op (k+1) a b else []),.sb (decide ((cano op (k+1) a b).length<=most))]) []):
  ACall Tryz.prog 211 [.v (.int .i64 ((4-k:Nat):Int)),encXs a,encXs b,.fn (.func fn) [] [],.v (.int .i64 most)] [] K:=by
 have hf4:4-k<=4:=by omega
 have ht:=topF_pos (4-k)
 have hdead:a.length+b.length=0->op false false=false->cano op (k+1) a b=[]:=fun h h2=>by
  have e1:a=[]:=List.length_eq_zero_iff.1 zo
  have e2:b=[]:=List.length_eq_zero_iff.1 zo
  rw[e1,e2];exact cano_nils op h2 (k+1)
 refine ACall.weak (ofxCan rfl rfl ?_)
 (repeat' ((conv=>whnf);first|(with_reducible refine hop.ff ?_)|refine zG ?_|apply zA|(apply zI;intro h)|exact zT));(all_goals conv=>whnf)
 refine Jn.at ⟨0,[],[(0,.v (.int .i64 ((4-k:Nat):Int))),(1,encXs a),(2,encXs b),(3,.fn (.func fn) [] []),(4,.v (.int .i64 most))]⟩ ?_ ?_
 ·(repeat' ((conv=>whnf);first|(with_reducible refine hop.ff ?_)|refine zG ?_|apply zA|(apply zI;intro h)|exact zT));(all_goals conv=>whnf)
  ·refine⟨(),trivial,?_⟩
   (exact leA)
  ·refine⟨_,Weak.tup2 Weak.nils Weak.bool,?_⟩
   rw[hdead (by simp only[List.length_map]at*;omega) h]at hK
   rw[List.length_nil,if_pos (Nat.zero_le _),decide_eq_true (Nat.zero_le _)]at hK
   exact hK
  ·refine⟨(),trivial,?_⟩
   (exact leA)
 (repeat' ((conv=>whnf);first|(with_reducible refine cxCuts a b (4-k) hf4 zo zo fun st' hs hm=>?_)|refine zG ?_|apply zA|(apply zI;intro h)|exact zT));(all_goals conv=>whnf)
 obtain⟨st,rfl,hcuts⟩:=cuts_of (fun x hx=>hx.elim (fun h=>hoa x h _ hf4) fun h=>hob x h _ hf4) hs hm
 have hR:∀u v,(∀r,r∈rngs (4-k) a b->((r.lo<=u/\u<=r.hi)↔(r.lo<=v/\v<=r.hi)))->restAt op k a b u=restAt op k a b v:=fun u v h=>restAt_congr h
 rw[cano_any op k a b hcuts,flatG_len]at hK
 have hstl:(0:Int)+st.length<=topF (4-k)+1:=sorted_len st 0 zo hcuts.sorted hcuts.range
 refine Lp.intro Nat (fun i=>⟨1,[(0,.arr 3 ((gsAt (restAt op k a b) (topF (4-k)) st i).map encG))],[(0,.v (.int .i64 ((4-k:Nat):Int))),(1,encXs a),(2,encXs b),(3,.fn (.func fn) [] []),(4,.v (.int .i64 most)),(12,.os 0 3 0 (gsAt (restAt op k a b) (topF (4-k)) st i).length),(13,.v (.int .i64 (sizeG (gsAt (restAt op k a b) (topF (4-k)) st i)))),(14,.lst ((st++[topF (4-k)+1]).map encZ)),(15,.v (.int .i64 i))]⟩)
  (fun i=>i<=st.length/\sizeG (gsAt (restAt op k a b) (topF (4-k)) st i)<=most) (fun i=>st.length-i) 0 ⟨Nat.zero_le _,Nat.zero_le _⟩ ?_ ?_
 ·(exact leA)
 intro i ⟨hi,hsz⟩
 rcases Nat.lt_or_ge i st.length with hil|hil
 ·obtain⟨x,hx⟩:=gex hil
  have hto:=segTo_range hcuts hx
  have hgi:=gsAt_ginv hcuts hR i x hx
  have hsucc:=gsAt_succ (R:=restAt op k a b) (top:=topF (4-k)) hx
  have hle1:=gsAt_size (R:=restAt op k a b) (top:=topF (4-k)) (st:=st) (i+1)
  have hrs:=rest_size (R:=restAt op k a b) (top:=topF (4-k)) hx
  have hx':(st++[topF (4-k)+1])[i]? =some x:=by rw[List.getElem?_append_left hil];exact hx
  have hy':=segTo_next (top:=topF (4-k)) hil
  have hpl:i+1<(st++[topF (4-k)+1]).length:=by simp;omega
  have hpl0:i<(st++[topF (4-k)+1]).length:=by omega
  have hgl:=gs_len hgi.full
  obtain⟨rest,hdr⟩:∃rest,restAt op k a b x=rest:=⟨_,rfl⟩
  obtain⟨to,hdto⟩:∃to,segTo (topF (4-k)) st i=to:=⟨_,rfl⟩
  rw[hdr,hdto]at hsucc
  rw[hdr]at hrs
  rw[hdto]at hto hy'
  have hcall:∀{K:KT},K (.tup [encXs (if rest.length<=most then rest else []),.sb (decide (rest.length<=most))]) []->ACall Tryz.prog 211 [.v (.int .i64 (((4-k:Nat):Int)+1)),encXs (atF (4-k) x a),encXs (atF (4-k) x b),.fn (.func fn) [] [],.v (.int .i64 most)] [] K:=fun h=>by
   have l1:=atF_len (4-k) x a
   have l2:=atF_len (4-k) x b
   refine hIH (atF (4-k) x a) (atF (4-k) x b) (okL_at hoa) (okL_at hob) zo zo ?_
   rw[show cano op k (atF (4-k) x a) (atF (4-k) x b)=rest from hdr]
   exact h
  have hto1:to+1-1=to:=by omega
  by_cases hle:rest.length<=most
  case neg=>
   have hc2:∀{K:KT},K (.tup [encXs [],.sb false]) []->ACall Tryz.prog 211 [.v (.int .i64 (((4-k:Nat):Int)+1)),encXs (atF (4-k) x a),encXs (atF (4-k) x b),.fn (.func fn) [] [],.v (.int .i64 most)] [] K:=fun h=>hcall (by rw[if_neg hle,decide_eq_false hle];exact h)
   clear hcall hIH
   rw[if_neg zo,decide_eq_false zo]at hK
   (repeat' ((conv=>whnf);first|(with_reducible first|refine in_map hpl0 ?_|refine In.intro (i+1) zo (by rw[List.length_map];exact hpl) ?_|refine ix_map hx' ?_|refine ix_map hy' ?_|refine wr_u64 hto1 zo zo ?_|refine cxCov a (4-k) hf4 x zo ?_|refine cxCov b (4-k) hf4 x zo ?_|refine hc2 ?_)|refine zG ?_|apply zA|(apply zI;intro h)|exact zT));(all_goals conv=>whnf)
   exact⟨_,Weak.tup2 Weak.nils Weak.bool,hK⟩
  have hc2:∀{K:KT},K (.tup [encXs rest,.sb true]) []->ACall Tryz.prog 211 [.v (.int .i64 (((4-k:Nat):Int)+1)),encXs (atF (4-k) x a),encXs (atF (4-k) x b),.fn (.func fn) [] [],.v (.int .i64 most)] [] K:=fun h=>hcall (by rw[if_pos hle,decide_eq_true hle];exact h)
  clear hcall hIH
  have hsz1:=gsAt_size (R:=restAt op k a b) (top:=topF (4-k)) (st:=st) (i+1)
  obtain⟨gs',hgs'⟩:∃gs',gsAt (restAt op k a b) (topF (4-k)) st (i+1)=gs':=⟨_,rfl⟩
  rw[hgs']at hsz1 hsucc hle1
  have next:sizeG gs'<=most->∃g':Nat,(g'<=st.length/\sizeG (gsAt (restAt op k a b) (topF (4-k)) st g')<=most)/\g'=i+1/\gsAt (restAt op k a b) (topF (4-k)) st g'=gs':=fun h=>⟨i+1,⟨hil,by rw[hgs'];exact h⟩,rfl,hgs'⟩
  generalize gsAt (restAt op k a b) (topF (4-k)) st i=gs at*
  have hsum:(sizeG gs:Int)+((rest.map encX).length:Int)=((sizeG gs+rest.length:Nat):Int):=by rw[List.length_map];omega
  have hover:most<sizeG gs'->∃y,Weak (.tup [.nils,.v (.bool false)]) y/\K y []:=fun h=>by
   rw[if_neg zo,decide_eq_false zo]at hK
   exact⟨_,Weak.tup2 Weak.nils Weak.bool,hK⟩
  rcases List.eq_nil_or_concat gs with hn|⟨ini,g,hc⟩
  ·subst hn
   have hs2:rest≠[]->gs'=[⟨x,to,rest⟩]:=fun h=>by
    rw[hsucc];unfold grow
    rw[if_neg (by simpa using h)];rfl
   (repeat' ((conv=>whnf);first|(with_reducible first|refine in_map hpl0 ?_|refine In.intro (i+1) zo (by rw[List.length_map];exact hpl) ?_|refine ix_map hx' ?_|refine ix_map hy' ?_|refine wr_u64 hto1 zo zo ?_|refine cxCov a (4-k) hf4 x zo ?_|refine cxCov b (4-k) hf4 x zo ?_|refine hc2 ?_|refine wr_i64 hsum zo zo ?_)|refine zG ?_|apply zA|(apply zI;intro h)|exact zT));(all_goals conv=>whnf)
   ·have e0:rest=[]:=List.length_eq_zero_iff.1 (by simp only[List.length_map]at h;omega)
    rw[e0,grow_nil]at hsucc
    refine⟨i+1,⟨hil,by rw[hgs',hsucc];exact hsz⟩,by omega,?_⟩
    rw[hgs',hsucc]
    (exact leA)
   ·rename_i h0
    have e1:=hs2 fun e=>h0 (by rw[e];rfl)
    refine hover ?_
    rw[e1]
    simp only[sizeG,List.map_cons,List.map_nil,List.sum_cons,List.sum_nil]at*
    omega
   ·rename_i h0
    have e1:=hs2 fun e=>h0 (by rw[e];rfl)
    have e2:sizeG gs'=sizeG []+rest.length:=by rw[e1];simp[sizeG]
    refine⟨i+1,⟨hil,by rw[hgs'];omega⟩,by omega,?_⟩
    rw[hgs',e2,e1]
    (exact leA)
  ·rw[List.concat_eq_append]at hc
   subst hc
   have hgl2:=hgi.low g zx
   have hgle:=hgi.wf.le g zx
   have hil2:ini.length<(ini++[g]).length:=by simp
   have hel:(ini++[g])[0+ini.length]? =some g:=by simp
   have hlen:(ini++[g]).length=ini.length+1:=by simp
   have hsz2:=sizeG_snoc ini g
   have hs2:rest≠[]->gs'=if g.hi+1=x/\g.val=rest then ini++[⟨g.lo,to,g.val⟩]else(ini++[g])++[⟨x,to,rest⟩]:=fun h=>by
    rw[hsucc];unfold grow
    rw[if_neg (by simpa using h)]
    simp only[List.getLast?_append,List.getLast?_singleton,Option.some_or,List.dropLast_concat,eqB_iff]
   (repeat' ((conv=>whnf);first|(with_reducible first|refine in_map hpl0 ?_|refine In.intro (i+1) zo (by rw[List.length_map];exact hpl) ?_|refine ix_map hx' ?_|refine ix_map hy' ?_|refine wr_u64 hto1 zo zo ?_|refine cxCov a (4-k) hf4 x zo ?_|refine cxCov b (4-k) hf4 x zo ?_|refine hc2 ?_|refine In.intro ini.length (by rw[hlen];omega) zo ?_|refine ix_map hel ?_|refine cxEqB g.val rest zo zo ?_|refine wr_i64 hsum zo zo ?_)|refine zG ?_|apply zA|(apply zI;intro h)|exact zT));(all_goals conv=>whnf)
   all_goals have hne:¬(((rest.map encX).length:Nat):Int)=0->rest≠[]:=fun h e=>h (by rw[e];rfl)
   ·have e0:rest=[]:=List.length_eq_zero_iff.1 (by simp only[List.length_map]at h;omega)
    rw[e0,grow_nil]at hsucc
    refine⟨i+1,⟨hil,by rw[hgs',hsucc];exact hsz⟩,by omega,?_⟩
    rw[hgs',hsucc]
    (exact leA)
   ·rename_i h0 h1
    have e1:=hs2 (hne h0)
    rw[if_pos ⟨h1,h⟩]at e1
    have e2:sizeG gs'=sizeG (ini++[g]):=by rw[e1,sizeG_snoc,sizeG_snoc]
    have e3:(ini++[Grp.mk g.lo to g.val]).length=(ini++[g]).length:=by rw[hlen];simp
    have e4:(ini++[Grp.mk g.lo to g.val]).map encG=((ini++[g]).map encG).set (0+ini.length) (.agg [.v (.int .u32 g.lo),.v (.int .u32 to),encXs g.val]):=by
     rw[Nat.zero_add,List.map_append,List.map_append,List.set_append_right _ _ zx]
     simp
    refine⟨i+1,⟨hil,by rw[hgs',e2];exact hsz⟩,by omega,?_⟩
    rw[hgs',e2,e1,e3,e4]
    (exact leA)
   ·rename_i h0 h1 h2
    have e1:=hs2 (hne h0)
    rw[if_neg fun e=>h2 e.2]at e1
    exact hover (by rw[e1,sizeG_snoc];simp only;omega)
   ·rename_i h0 h1 h2
    have e1:=hs2 (hne h0)
    rw[if_neg fun e=>h2 e.2]at e1
    have e2:sizeG gs'=sizeG (ini++[g])+rest.length:=by rw[e1,sizeG_snoc]
    refine⟨i+1,⟨hil,by rw[hgs'];omega⟩,by omega,?_⟩
    rw[hgs',e2,e1,List.length_append,List.map_append (l₁:=ini++[g])]
    (exact leA)
   ·rename_i h0 h1
    have e1:=hs2 (hne h0)
    rw[if_neg fun e=>h1 e.1]at e1
    exact hover (by rw[e1,sizeG_snoc];simp only;omega)
   ·rename_i h0 h1
    have e1:=hs2 (hne h0)
    rw[if_neg fun e=>h1 e.1]at e1
    have e2:sizeG gs'=sizeG (ini++[g])+rest.length:=by rw[e1,sizeG_snoc]
    refine⟨i+1,⟨hil,by rw[hgs'];omega⟩,by omega,?_⟩
    rw[hgs',e2,e1,List.length_append,List.map_append (l₁:=ini++[g])]
    (exact leA)
 ·have hii:i=st.length:=by omega
  have hgf:=(gsAt_all (R:=restAt op k a b) (top:=topF (4-k)) (Nat.le_refl st.length))
  have hinv:=cano_ginv op k a b hcuts
  have hpn:¬((st.length:Int)+1<(((st++[topF (4-k)+1]).map encZ).length:Nat)):=by simp
  rw[hii,hgf]at hsz⊢
  clear hIH hR hcuts hdead hm hs hgf
  generalize groupsOf (restAt op k a b) (topF (4-k)) st=gs at*
  rw[if_pos hsz,decide_eq_true hsz]at hK
  have hgl:=gs_len hinv.full
  (repeat' ((conv=>whnf);first|(with_reducible first|refine in_c zd ?_|refine In.intro (sizeG gs) rfl zo ?_|refine Ob.intro ⟨Nat.zero_le _,Nat.le_trans (Nat.mul_le_mul_left _ (Nat.le_trans hsz (Nat.le_of_lt hm2))) (Nat.le_of_ble_eq_true zk)⟩ ?_)|refine zG ?_|apply zA|(apply zI;intro h)|exact zT));(all_goals conv=>whnf)
  refine Lp.intro (Nat×List AV) (fun g=>⟨2,[(1,.arr 10 ((flatG (4-k) (gs.take g.1)).map encX++g.2)),(0,.arr 3 (gs.map encG))],[(0,.v (.int .i64 ((4-k:Nat):Int))),(20,.os 1 10 0 (flatG (4-k) (gs.take g.1)).length),(146,.os 0 3 0 gs.length),(147,.v (.int .i64 gs.length)),(148,.v (.int .i64 g.1))]⟩)
   (fun g=>g.1<=gs.length) (fun g=>gs.length-g.1) (0,List.replicate (sizeG gs) (encX zB)) (Nat.zero_le _) ?_ ?_
  ·(exact leA)
  rintro⟨j,zs⟩ hj
  simp only at hj⊢
  rcases Nat.lt_or_ge j gs.length with hjl|hjl
  ·obtain⟨g,hg⟩:=gex hjl
   have hg0:gs[0+j]? =some g:=by rw[Nat.zero_add];exact hg
   (repeat' ((conv=>whnf);first|(with_reducible first|refine in_nat hjl ?_|refine ix_map hg0 ?_)|refine zG ?_|apply zA|(apply zI;intro h)|exact zT));(all_goals conv=>whnf)
   have hghi:=hinv.low g (List.mem_of_getElem? hg)
   have hgle:=hinv.wf.le g (List.mem_of_getElem? hg)
   have m1:(mkR g.lo g.hi).lo=g.lo:=mkR_lo zo zo zo zo
   have m2:(mkR g.lo g.hi).hi=g.hi:=mkR_hi zo zo zo zo
   have hsu:flatG (4-k) (gs.take (j+1))=flatG (4-k) (gs.take j)++g.val.map fun b=>b.put (4-k) (mkR g.lo g.hi):=by
    rw[List.take_add_one,hg];exact flatG_snoc
   have hfl1:(flatG (4-k) (gs.take j)).length+g.val.length<=sizeG gs:=by
    have h1:=flatG_len (4-k) (gs.take (j+1))
    have h2:sizeG (gs.take (j+1))<=sizeG gs:=by
     have:sizeG gs=sizeG (gs.take (j+1))+sizeG (gs.drop (j+1)):=by
      simp only[sizeG]
      rw[<-List.sum_append,<-List.map_append,List.take_append_drop]
     omega
    rw[hsu,List.length_append,List.length_map]at h1
    omega
   obtain⟨F,hF⟩:∃F,flatG (4-k) (gs.take j)=F:=⟨_,rfl⟩
   rw[hF]at hsu hfl1⊢
   refine Lp.intro (Nat×List AV) (fun q=>⟨3,[(2,.box [.v (.int .u32 g.lo),.v (.int .u32 g.hi),encXs g.val]),(1,.arr 10 ((F++(g.val.take q.1).map fun b=>b.put (4-k) (mkR g.lo g.hi)).map encX++q.2)),(0,.arr 3 (gs.map encG))],[(0,.v (.int .i64 ((4-k:Nat):Int))),(20,.os 1 10 0 (F.length+q.1)),(22,.op 2 0),(146,.os 0 3 0 gs.length),(147,.v (.int .i64 gs.length)),(148,.v (.int .i64 j)),(153,encXs g.val),(154,.v (.int .i64 ((g.val.map encX).length:Nat))),(155,.v (.int .i64 q.1))]⟩)
    (fun q=>q.1<=g.val.length) (fun q=>g.val.length-q.1) (0,zs) (Nat.zero_le _) ?_ ?_
   ·rw[List.take_zero,List.map_nil,List.append_nil]
    (exact leA)
   rintro⟨m,ys⟩ hm
   simp only at hm⊢
   rcases Nat.lt_or_ge m g.val.length with hml|hml
   ·obtain⟨z,hz⟩:=gex hml
    have hnext:(F++(g.val.take (m+1)).map fun b=>b.put (4-k) (mkR g.lo g.hi)).map encX=(F++(g.val.take m).map fun b=>b.put (4-k) (mkR g.lo g.hi)).map encX++[encX (z.put (4-k) (mkR g.lo g.hi))]:=by
     simp only[List.take_add_one,hz,Option.toList_some,List.map_append,List.map_cons,List.map_nil,List.append_assoc]
    have hAl:((F++(g.val.take m).map fun b=>b.put (4-k) (mkR g.lo g.hi)).map encX).length=F.length+m:=by
     rw[List.length_map,List.length_append,List.length_map,List.length_take];omega
    generalize hA:(F++(g.val.take m).map fun b=>b.put (4-k) (mkR g.lo g.hi)).map encX=A at*
    generalize hB:(F++(g.val.take (m+1)).map fun b=>b.put (4-k) (mkR g.lo g.hi)).map encX=B at*
    obtain⟨V,hV⟩:∃V,V=encX (z.put (4-k) (mkR g.lo g.hi)):=⟨_,rfl⟩
    rw[<-hV]at hnext
    obtain rfl|rfl|rfl|rfl|rfl:k=0\/k=1\/k=2\/k=3\/k=4:=by omega
    all_goals
     simp only[Nat.reduceSub,put0,put1,put2,put3,put4,encX,m1,m2]at hV
     rw[hV]at hnext
     (repeat' ((conv=>whnf);first|(with_reducible first|refine in_map hml ?_|refine in_nat hml ?_|refine ix_map hz ?_)|(refine in_c zd ?_)|(with_reducible refine sl_app hAl ?_)|refine zG ?_|apply zA|(apply zI;intro h)|exact zT));(all_goals conv=>whnf)
     refine⟨(m+1,[]),by simp only;omega,by simp only;omega,?_⟩
     simp only
     rw[hB,hnext,List.append_nil]
     (exact leA)
   ·(repeat' ((conv=>whnf);first|refine zG ?_|apply zA|(apply zI;intro h)|exact zT));(all_goals conv=>whnf)
    have hmm:m=g.val.length:=by omega
    rw[hmm,List.take_length,<-hsu]
    have e2:F.length+g.val.length=(flatG (4-k) (gs.take (j+1))).length:=by rw[hsu,List.length_append,List.length_map]
    refine⟨(j+1,ys),hjl,by simp only;omega,?_⟩
    simp only
    rw[e2]
    (exact leA)
  ·rw[List.take_of_length_le hjl]
   (repeat' ((conv=>whnf);first|(with_reducible refine sl_app (by rw[List.length_map]) ?_)|refine zG ?_|apply zA|(apply zI;intro h)|exact zT));(all_goals conv=>whnf)
   exact⟨_,Weak.tup2 Weak.refl Weak.bool,hK⟩
theorem cxCan(fn:FuncId)(op:Bool->Bool->Bool)(hop:Opf fn op)(most:Nat)(hm1:1<=most)(hm2:most<1000000000):∀(k:Nat),k<=5->∀(a b:List Bx) {K:KT},okL a->okL b->a.length<1000000000->b.length<1000000000->
  K (.tup [encXs (if(cano op k a b).length<=most then cano op k a b else []),.sb (decide ((cano op k a b).length<=most))]) []->
  ACall Tryz.prog 211 [.v (.int .i64 ((5-k:Nat):Int)),encXs a,encXs b,.fn (.func fn) [] [],.v (.int .i64 most)] [] K
 |0,_,a,b,K,hoa,hob,ha,hb,hK=>by
  rw[cano]at hK
  refine ACall.weak (ofxCan rfl rfl ?_)
  (repeat' ((conv=>whnf);first|(with_reducible refine hop.ap _ _ ?_)|refine zG ?_|apply zA|(apply zI;intro h)|exact zT));(all_goals conv=>whnf)
  ·rw[dec_pos,dec_pos]at h
   rw[h,if_pos rfl,if_pos (by exact hm1),decide_eq_true (by exact hm1)]at hK
   exact⟨_,Weak.tup2 Weak.refl Weak.bool,hK⟩
  ·rw[dec_pos,dec_pos]at h
   simp only[h,Bool.false_eq_true,if_false,List.length_nil,Nat.zero_le,if_true,decide_true,ite_self]at hK
   exact⟨_,Weak.tup2 Weak.nils Weak.bool,hK⟩
 |k+1,hk,a,b,K,hoa,hob,ha,hb,hK=>by
  rw[show 5-(k+1)=4-k by omega]
  refine can_step fn op hop most hm1 hm2 k zo (fun a b K h1 h2 h3 h4 h5=>?_) a b hoa hob ha hb hK
  rw[show((4-k:Nat):Int)+1=((5-k:Nat):Int) by omega]
  exact cxCan fn op hop most hm1 hm2 k zo a b h1 h2 h3 h4 h5
def five(c0 c1 c2 c3 c4:Int):Nat->Int
 |0=>c0
 |1=>c1
 |2=>c2
 |3=>c3
 |_=>c4
theorem ix_set{xs:List AV}{i:Nat}{x:AV}{K:AV->Prop}(h:i<xs.length)(hk:K x):Ix (xs.set i x) i K:=
 Ix.intro (by rw[List.getElem?_set_self h]) hk
theorem cxRests(l:List Bx)(f:Nat)(hf:f<=4)(hl:l.length<1000000000){K:KT}(hK:K (encXs (l.map (zeroTo (4-f)))) []):ACall Tryz.prog 244 [.v (.int .i64 f),encXs l] [] K:=by
 refine ACall.weak (ofxRests rfl rfl ?_)
 (repeat' ((conv=>whnf);first|refine zG ?_|apply zA|(apply zI;intro h)|exact zT));(all_goals conv=>whnf)
 refine cxClone l hl (fun e=>?_) ?_
 ·subst e
  (repeat' ((conv=>whnf);first|refine zG ?_|apply zA|(apply zI;intro h)|exact zT));(all_goals conv=>whnf)
  refine Lp.times 1 ?_
  (repeat' ((conv=>whnf);first|refine zG ?_|apply zA|(apply zI;intro h)|exact zT));(all_goals conv=>whnf)
  exact⟨_,Weak.nils,hK⟩
 ·(repeat' ((conv=>whnf);first|refine zG ?_|apply zA|(apply zI;intro h)|exact zT));(all_goals conv=>whnf)
  refine Lp.intro Nat (fun i=>⟨1,[(0,.arr 10 (((l.take i).map (zeroTo (4-f))++l.drop i).map encX))],[(0,.v (.int .i64 f)),(5,.os 0 10 0 l.length),(11,.v (.int .i64 l.length)),(12,.v (.int .i64 i))]⟩) (fun i=>i<=l.length) (fun i=>l.length-i) 0 (Nat.zero_le _) ?_ ?_
  ·rw[List.take_zero,List.drop_zero]
   (exact leA)
  intro i hi
  rcases Nat.lt_or_ge i l.length with hil|hil
  ·obtain⟨x,hx⟩:=gex hil
   have hd:l.drop i=x::l.drop (i+1):=by
    rw[List.getElem?_eq_getElem hil]at hx
    rw[<-Option.some.inj hx,<-List.drop_eq_getElem_cons hil]
   have htl:((l.take i).map (zeroTo (4-f))).length=i:=by rw[List.length_map,List.length_take];omega
   have hget:((l.take i).map (zeroTo (4-f))++l.drop i)[0+i]? =some x:=by
    rw[Nat.zero_add,List.getElem?_append_right zo,htl,Nat.sub_self,hd];rfl
   have hset:∀y:Bx,(((l.take i).map (zeroTo (4-f))++l.drop i).map encX).set (0+i) (encX y)=((l.take i).map (zeroTo (4-f))++y::l.drop (i+1)).map encX:=fun y=>by
    rw[Nat.zero_add,<-List.map_set,List.set_append_right _ _ zo,htl,Nat.sub_self,hd]
    rfl
   have hnext:(l.take (i+1)).map (zeroTo (4-f))++l.drop (i+1)=(l.take i).map (zeroTo (4-f))++zeroTo (4-f) x::l.drop (i+1):=by
    rw[List.take_add_one,hx,List.map_append,List.append_assoc];rfl
   have hlen:0+i<(((l.take i).map (zeroTo (4-f))++l.drop i).map encX).length:=by
    rw[List.length_map,List.length_append,htl,List.length_drop];omega
   generalize hA:(l.take i).map (zeroTo (4-f))++l.drop i=A at*
   rcases f with _|_|_|_|_|f
   case succ.succ.succ.succ.succ=>omega
   all_goals
    (repeat' ((conv=>whnf);first|(with_reducible first|refine Lp.times 7 ?_|refine in_nat hil ?_|refine ix_map hget ?_|refine ix_set (by simpa only[List.length_set]using hlen) ?_)|(refine in_c zd ?_)|refine zG ?_|apply zA|(apply zI;intro h)|exact zT));(all_goals conv=>whnf)
    refine⟨i+1,hil,by omega,?_⟩
    try simp only[List.set_set]
    rw[hnext,<-hset,Int.natCast_add,Int.natCast_one]
    (exact leA)
  ·rw[List.take_of_length_le hil,List.drop_of_length_le hil,List.append_nil]
   (repeat' ((conv=>whnf);first|(with_reducible refine sl_full (by rw[List.length_map,List.length_map]) ?_)|refine zG ?_|apply zA|(apply zI;intro h)|exact zT));(all_goals conv=>whnf)
   exact⟨_,Weak.refl,hK⟩
theorem limB{l:List Bx}:limP l=(if l.length<=4096 then l else []):=by
 unfold limP;split<;>split<;>first|rfl|omega
theorem cxComb(fn:FuncId)(op:Bool->Bool->Bool)(hop:Opf fn op)(a b:List Bx)(hoa:okL a)(hob:okL b)(ha:a.length<1000000000)(hb:b.length<1000000000){K:KT}(hK:K (.tup [encXs (limP (cano op 5 a b)),.v (.int .i64 (limE (cano op 5 a b)))]) []):
  ACall Tryz.prog 191 [encXs a,encXs b,.fn (.func fn) [] []] [] K:=by
 have hcan:∀{K:KT},K (.tup [encXs (if(cano op 5 a b).length<=4096 then cano op 5 a b else []),.sb (decide ((cano op 5 a b).length<=4096))]) []->ACall Tryz.prog 211 [.v (.int .i64 0),encXs a,encXs b,.fn (.func fn) [] [],.v (.int .i64 4096)] [] K:=
  fun h=>cxCan fn op hop 4096 zd zd 5 (Nat.le_refl _) a b hoa hob ha hb h
 refine ACall.weak (ofxComb rfl rfl ?_)
 unfold limE at hK
 rw[limB]at hK
 (repeat' ((conv=>whnf);first|(with_reducible refine hcan ?_)|refine zG ?_|apply zA|(apply zI;intro h)|exact zT));(all_goals conv=>whnf)
 ·rw[if_neg (c:=4096<_) zo]at hK
  exact⟨_,Weak.refl,hK⟩
 ·rw[if_neg h,if_pos zo]at hK
  exact⟨_,Weak.tup2 Weak.nils Weak.refl,hK⟩
theorem div_step(k:Nat)(hk:k<=4)(hIH:∀(l:List Bx) {K:KT},l.length<1000000000->l≠[]->K (.sb (canB k l)) []->ACall Tryz.prog 231 [.v (.int .i64 (((4-k:Nat):Int)+1)),encXs l] [] K)
  (l:List Bx)(hl:l.length<1000000000){K:KT}(hK:K (.sb (canB (k+1) l)) []):ACall Tryz.prog 231 [.v (.int .i64 ((4-k:Nat):Int)),encXs l] [] K:=by
 have hf4:4-k<=4:=by omega
 have hP:=runs_parts (4-k) l
 have hfl:=runs_flat (4-k) l
 have hal:∀{a b:List Bx},alike (4-k+1) a b=decide (a.map (zeroTo k)=b.map (zeroTo k)):=fun {a b}=>by
  rw[show 4-k+1=5-k by omega,Bool.eq_iff_iff,decide_eq_true_eq];exact alike_iff
 rw[canB]at hK
 generalize runsF (4-k) l=ps at*
 have hflen:ps.flatten.length=l.length:=by rw[hfl]
 refine ACall.bool (ofxDiv rfl rfl ?_)
 (repeat' ((conv=>whnf);first|refine zG ?_|apply zA|(apply zI;intro h)|exact zT));(all_goals conv=>whnf)
 refine Lp.intro (Nat×Int×Int×AV) (fun r=>⟨1,[(0,.box [.v (.int .u32 r.2.1),.v (.int .u32 r.2.2.1),r.2.2.2])],[(0,.v (.int .i64 ((4-k:Nat):Int))),(1,encXs (ps.drop r.1).flatten),(5,.op 0 0)]⟩)
  (fun r=>r.1<=ps.length/\chkR (canB k) (4-k) [] ps=chkR (canB k) (4-k) (lastRun ps r.1) (ps.drop r.1)/\((lastRun ps r.1=[]/\r.2.2.2=.nils)\/(lastRun ps r.1≠[]/\r.2=((rgOf (4-k) (lastRun ps r.1)).lo,(rgOf (4-k) (lastRun ps r.1)).hi,encXs ((lastRun ps r.1).map (zeroTo k)))/\(lastRun ps r.1).length<=l.length))) (fun r=>ps.length-r.1) (0,0,0,.nils) ⟨Nat.zero_le _,by rw[List.drop_zero];rfl,.inl ⟨rfl,rfl⟩⟩ ?_ ?_
 ·rw[List.drop_zero,hfl]
  (exact leA)
 rintro⟨r,lo,hi,y⟩ ⟨hr,hchk,hlast⟩
 simp only at hr hchk hlast⊢
 have hsufl:(ps.drop r).flatten.length<=l.length:=by
  rw[<-hflen]
  have:ps.flatten=(ps.take r).flatten++(ps.drop r).flatten:=by rw[<-List.flatten_append,List.take_append_drop]
  rw[this,List.length_append];omega
 rcases Nat.lt_or_ge r ps.length with hrl|hrl
 ·obtain⟨p,hp⟩:=gex hrl
  obtain⟨hp1,hp2⟩:=hP.mem p (List.mem_of_getElem? hp)
  have hplen:0<p.length:=List.length_pos_iff.2 hp1
  have hdrop:ps.drop r=p::ps.drop (r+1):=by
   rw[List.getElem?_eq_getElem hrl]at hp
   rw[<-Option.some.inj hp,<-List.drop_eq_getElem_cons hrl]
  obtain⟨more,hmore⟩:∃more,(ps.drop (r+1)).flatten=more:=⟨_,rfl⟩
  have hsuf:(ps.drop r).flatten=p++more:=by rw[hdrop,List.flatten_cons,hmore]
  rw[hsuf]at hsufl⊢
  rw[List.length_append]at hsufl
  obtain⟨x0,hx0⟩:=gex hplen
  have hlx0:(p++more)[0]? =some x0:=by rw[List.getElem?_append_left hplen];exact hx0
  have hx0r:x0.get (4-k)=rgOf (4-k) p:=hp2 x0 (List.mem_of_getElem? hx0)
  have hends:more=[]\/∃y,(p++more)[p.length]? =some y/\y.get (4-k)≠x0.get (4-k):=by
   rcases Nat.lt_or_ge (r+1) ps.length with hn|hn
   ·obtain⟨q,hq⟩:∃q,ps[r+1]? =some q:=⟨_,List.getElem?_eq_getElem hn⟩
    obtain⟨hq1,hq2⟩:=hP.mem q (List.mem_of_getElem? hq)
    obtain⟨y,hy⟩:∃y,q[0]? =some y:=⟨_,List.getElem?_eq_getElem (List.length_pos_iff.2 hq1)⟩
    refine .inr ⟨y,?_,?_⟩
    ·have hd2:ps.drop (r+1)=q::ps.drop (r+2):=by
      rw[List.getElem?_eq_getElem hn]at hq
      rw[<-Option.some.inj hq,<-List.drop_eq_getElem_cons hn]
     rw[<-hmore,hd2,List.flatten_cons,List.getElem?_append_right (Nat.le_refl _),Nat.sub_self,List.getElem?_append_left (List.length_pos_iff.2 hq1)]
     exact hy
    ·rw[hq2 y (List.mem_of_getElem? hy),hx0r]
     exact(hP.next hp hq).symm
   ·left
    rw[<-hmore,List.drop_of_length_le zo];rfl
  have hpl0:0<(p++more).length:=by rw[List.length_append];omega
  have hstep:chkR (canB k) (4-k) [] ps=(!joinB (4-k) (lastRun ps r) p&&canB k p&&chkR (canB k) (4-k) p (ps.drop (r+1))):=by rw[hchk,hdrop,chkR]
  have hlast1:lastRun ps (r+1)=p:=by rw[lastRun,hp];rfl
  have hrests:∀{K:KT},K (encXs (p.map (zeroTo k))) []->ACall Tryz.prog 244 [.v (.int .i64 ((4-k:Nat):Int)),encXs p] [] K:=fun h=>cxRests p (4-k) hf4 zo (by rw[show 4-(4-k)=k by omega];exact h)
  have hsl:∀{K:List AV->Prop},K (p.map encX)->Sl ((p++more).map encX) 0 (p.length-0) K:=fun {K} h=>by
   refine sl_map (by rw[List.length_append];omega) ?_
   rw[List.drop_zero,Nat.sub_zero,List.take_left' rfl]
   exact h
  have hx0l:=(x0.get (4-k)).l1
  have hx0l0:=(x0.get (4-k)).l0
  have hcan:∀{K:KT},K (.sb (canB k p)) []->ACall Tryz.prog 231 [.v (.int .i64 (((4-k:Nat):Int)+1)),encXs p] [] K:=fun h=>hIH p zo hp1 h
  have hsl2:∀{K:List AV->Prop},K (more.map encX)->Sl ((p++more).map encX) p.length ((p++more).length-p.length) K:=fun {K} h=>by
   refine sl_map (by rw[List.length_append];omega) ?_
   rw[List.drop_left' rfl,List.take_of_length_le (by rw[List.length_append];omega)]
   exact h
  have hml:(more.map encX).length=more.length:=List.length_map ..
  have hjoin:∀(z:Bool),joinB (4-k) (lastRun ps r) p=z->chkR (canB k) (4-k) [] ps=(!z&&canB k p&&chkR (canB k) (4-k) p (ps.drop (r+1))):=fun z h=>by rw[hstep,h]
  rcases hlast with⟨hl0,rfl⟩|⟨hl0,heq,hll⟩
  ·(repeat' ((conv=>whnf);first|refine zG ?_|apply zA|(apply zI;intro h)|exact zT));(all_goals conv=>whnf)
   refine Jn.at ⟨1,[(0,.box [.v (.int .u32 lo),.v (.int .u32 hi),.nils])],[(0,.v (.int .i64 ((4-k:Nat):Int))),(1,encXs (p++more)),(5,.op 0 0),(6,.v (.int .i64 p.length))]⟩ ?_ ?_
   ·(repeat' ((conv=>whnf);first|refine zG ?_|apply zA|(apply zI;intro h)|exact zT));(all_goals conv=>whnf)
    refine Lp.intro Nat (fun j=>⟨1,[(0,.box [.v (.int .u32 lo),.v (.int .u32 hi),.nils])],[(0,.v (.int .i64 ((4-k:Nat):Int))),(1,encXs (p++more)),(5,.op 0 0),(6,.v (.int .i64 j))]⟩) (fun j=>1<=j/\j<=p.length) (fun j=>p.length-j) 1 ⟨Nat.le_refl _,hplen⟩ ?_ ?_
    ·(exact leA)
    intro j ⟨hj0,hj⟩
    clear hchk hK hIH hP hrests hsl hstep
    rcases Nat.lt_or_ge j p.length with hjl|hjl
    ·obtain⟨x,hx⟩:=gex hjl
     have hlx:(p++more)[j]? =some x:=by rw[List.getElem?_append_left hjl];exact hx
     have hxr:x.get (4-k)=x0.get (4-k):=by rw[hp2 x (List.mem_of_getElem? hx),hx0r]
     have hjl2:j<(p++more).length:=by rw[List.length_append];omega
     obtain rfl|rfl|rfl|rfl|rfl:k=0\/k=1\/k=2\/k=3\/k=4:=by omega
     all_goals
      (repeat' ((conv=>whnf);first|(with_reducible first|refine in_map hjl2 ?_|refine In.intro 0 rfl (by rw[List.length_map];exact hpl0) ?_|refine ix_map hlx ?_|refine ix_map hlx0 ?_)|(refine in_c zd ?_)|(with_reducible refine eqv_R ?_)|refine zG ?_|apply zA|(apply zI;intro h)|exact zT));(all_goals conv=>whnf)
      all_goals first
       |(exfalso;exact h hxr)
       |(refine⟨j+1,by omega,by omega,?_⟩
         rw[Int.natCast_add,Int.natCast_one]
         (exact leA))
    ·have hjp:j=p.length:=by omega
     subst hjp
     rcases hends with hend|⟨w,hlw,hne⟩
     ·subst hend
      rw[List.append_nil]at*
      (repeat' ((conv=>whnf);first|refine zG ?_|apply zA|(apply zI;intro h)|exact zT));(all_goals conv=>whnf)
      refine⟨(),trivial,?_⟩
      (exact leA)
     ·have hlwl:p.length<(p++more).length:=(List.getElem?_eq_some_iff.1 hlw).1
      obtain rfl|rfl|rfl|rfl|rfl:k=0\/k=1\/k=2\/k=3\/k=4:=by omega
      all_goals
       (repeat' ((conv=>whnf);first|(with_reducible first|refine in_map hlwl ?_|refine In.intro 0 rfl (by rw[List.length_map];exact hpl0) ?_|refine ix_map hlw ?_|refine ix_map hlx0 ?_)|(refine in_c zd ?_)|(with_reducible refine eqv_R ?_)|refine zG ?_|apply zA|(apply zI;intro h)|exact zT));(all_goals conv=>whnf)
       all_goals first
        |(exfalso;exact hne h)
        |(refine⟨(),trivial,?_⟩
          (exact leA))
   refine Jn.at ⟨2,[(1,.box [.v (.int .u32 (x0.get (4-k)).lo),.v (.int .u32 (x0.get (4-k)).hi),encXs (p.map (zeroTo k))]),(0,.box [.v (.int .u32 lo),.v (.int .u32 hi),.nils])],[(0,.v (.int .i64 ((4-k:Nat):Int))),(1,encXs (p++more)),(5,.op 0 0),(6,.v (.int .i64 p.length)),(7,.op 1 0)]⟩ ?_ ?_
   ·clear hchk hK hIH hP hstep
    obtain rfl|rfl|rfl|rfl|rfl:k=0\/k=1\/k=2\/k=3\/k=4:=by omega
    all_goals
     (repeat' ((conv=>whnf);first|(with_reducible first|refine In.intro 0 rfl (by rw[List.length_map];exact hpl0) ?_|refine ix_map hlx0 ?_)|(refine in_c zd ?_)|(with_reducible first|refine Sb.intro 0 p.length rfl rfl zo (by rw[List.length_map,List.length_append];omega) ?_|refine hsl ?_|refine hrests ?_)|refine zG ?_|apply zA|(apply zI;intro h)|exact zT));(all_goals conv=>whnf)
     all_goals
      refine⟨(),trivial,?_⟩
      (exact leA)
   have hj:=hjoin false (by rw[hl0];rfl)
   have hx0s:=hx0r.symm
   clear hx0r hp2
   (repeat' ((conv=>whnf);first|(with_reducible first|refine hsl ?_|refine hcan ?_|refine hsl2 ?_|refine Sb.intro 0 p.length rfl rfl zo (by rw[List.length_map,List.length_append];omega) ?_|refine Sb.intro p.length (p++more).length rfl (by rw[List.length_map]) (by rw[List.length_append];omega) (by rw[List.length_map];exact Nat.le_refl _) ?_)|refine zG ?_|apply zA|(apply zI;intro h)|exact zT));(all_goals conv=>whnf)
   all_goals first
    |exact fin_f hK (by rw[hj];simp[*])
    |(refine⟨(r+1,(x0.get (4-k)).lo,(x0.get (4-k)).hi,encXs (p.map (zeroTo k))),⟨hrl,?_,.inr ⟨?_,?_,?_⟩⟩,?_,?_⟩
      ·simp only;rw[hlast1,hj];simp[*]<;>(intros;omega)
      ·simp only;rw[hlast1];exact hp1
      ·simp only;rw[hlast1,hx0s]
      ·simp only;rw[hlast1];omega
      ·simp only;omega
      ·simp only;rw[hmore];(exact leA))
  ·simp only[Prod.mk.injEq]at heq
   obtain⟨rfl,rfl,rfl⟩:=heq
   (repeat' ((conv=>whnf);first|refine zG ?_|apply zA|(apply zI;intro h)|exact zT));(all_goals conv=>whnf)
   refine Jn.at ⟨1,[(0,.box [.v (.int .u32 (rgOf (4-k) (lastRun ps r)).lo),.v (.int .u32 (rgOf (4-k) (lastRun ps r)).hi),encXs ((lastRun ps r).map (zeroTo k))])],[(0,.v (.int .i64 ((4-k:Nat):Int))),(1,encXs (p++more)),(5,.op 0 0),(6,.v (.int .i64 p.length))]⟩ ?_ ?_
   ·(repeat' ((conv=>whnf);first|refine zG ?_|apply zA|(apply zI;intro h)|exact zT));(all_goals conv=>whnf)
    refine Lp.intro Nat (fun j=>⟨1,[(0,.box [.v (.int .u32 (rgOf (4-k) (lastRun ps r)).lo),.v (.int .u32 (rgOf (4-k) (lastRun ps r)).hi),encXs ((lastRun ps r).map (zeroTo k))])],[(0,.v (.int .i64 ((4-k:Nat):Int))),(1,encXs (p++more)),(5,.op 0 0),(6,.v (.int .i64 j))]⟩) (fun j=>1<=j/\j<=p.length) (fun j=>p.length-j) 1 ⟨Nat.le_refl _,hplen⟩ ?_ ?_
    ·(exact leA)
    intro j ⟨hj0,hj⟩
    clear hchk hK hIH hP hrests hsl hstep
    rcases Nat.lt_or_ge j p.length with hjl|hjl
    ·obtain⟨x,hx⟩:=gex hjl
     have hlx:(p++more)[j]? =some x:=by rw[List.getElem?_append_left hjl];exact hx
     have hxr:x.get (4-k)=x0.get (4-k):=by rw[hp2 x (List.mem_of_getElem? hx),hx0r]
     have hjl2:j<(p++more).length:=by rw[List.length_append];omega
     obtain rfl|rfl|rfl|rfl|rfl:k=0\/k=1\/k=2\/k=3\/k=4:=by omega
     all_goals
      (repeat' ((conv=>whnf);first|(with_reducible first|refine in_map hjl2 ?_|refine In.intro 0 rfl (by rw[List.length_map];exact hpl0) ?_|refine ix_map hlx ?_|refine ix_map hlx0 ?_)|(refine in_c zd ?_)|(with_reducible refine eqv_R ?_)|refine zG ?_|apply zA|(apply zI;intro h)|exact zT));(all_goals conv=>whnf)
      all_goals first
       |(exfalso;exact h hxr)
       |(refine⟨j+1,by omega,by omega,?_⟩
         rw[Int.natCast_add,Int.natCast_one]
         (exact leA))
    ·have hjp:j=p.length:=by omega
     subst hjp
     rcases hends with hend|⟨w,hlw,hne⟩
     ·subst hend
      rw[List.append_nil]at*
      (repeat' ((conv=>whnf);first|refine zG ?_|apply zA|(apply zI;intro h)|exact zT));(all_goals conv=>whnf)
      refine⟨(),trivial,?_⟩
      (exact leA)
     ·have hlwl:p.length<(p++more).length:=(List.getElem?_eq_some_iff.1 hlw).1
      obtain rfl|rfl|rfl|rfl|rfl:k=0\/k=1\/k=2\/k=3\/k=4:=by omega
      all_goals
       (repeat' ((conv=>whnf);first|(with_reducible first|refine in_map hlwl ?_|refine In.intro 0 rfl (by rw[List.length_map];exact hpl0) ?_|refine ix_map hlw ?_|refine ix_map hlx0 ?_)|(refine in_c zd ?_)|(with_reducible refine eqv_R ?_)|refine zG ?_|apply zA|(apply zI;intro h)|exact zT));(all_goals conv=>whnf)
       all_goals first
        |(exfalso;exact hne h)
        |(refine⟨(),trivial,?_⟩
          (exact leA))
   refine Jn.at ⟨2,[(1,.box [.v (.int .u32 (x0.get (4-k)).lo),.v (.int .u32 (x0.get (4-k)).hi),encXs (p.map (zeroTo k))]),(0,.box [.v (.int .u32 (rgOf (4-k) (lastRun ps r)).lo),.v (.int .u32 (rgOf (4-k) (lastRun ps r)).hi),encXs ((lastRun ps r).map (zeroTo k))])],[(0,.v (.int .i64 ((4-k:Nat):Int))),(1,encXs (p++more)),(5,.op 0 0),(6,.v (.int .i64 p.length)),(7,.op 1 0)]⟩ ?_ ?_
   ·clear hchk hK hIH hP hstep
    obtain rfl|rfl|rfl|rfl|rfl:k=0\/k=1\/k=2\/k=3\/k=4:=by omega
    all_goals
     (repeat' ((conv=>whnf);first|(with_reducible first|refine In.intro 0 rfl (by rw[List.length_map];exact hpl0) ?_|refine ix_map hlx0 ?_)|(refine in_c zd ?_)|(with_reducible first|refine Sb.intro 0 p.length rfl rfl zo (by rw[List.length_map,List.length_append];omega) ?_|refine hsl ?_|refine hrests ?_)|refine zG ?_|apply zA|(apply zI;intro h)|exact zT));(all_goals conv=>whnf)
     all_goals
      refine⟨(),trivial,?_⟩
      (exact leA)
   have h1:=(rgOf (4-k) (lastRun ps r)).h1
   have h0:=(rgOf (4-k) (lastRun ps r)).h0
   have hlen:0<(((lastRun ps r).map (zeroTo k)).map encX).length:=by rw[List.length_map,List.length_map];exact List.length_pos_iff.2 hl0
   have hjb:joinB (4-k) (lastRun ps r) p=(decide ((x0.get (4-k)).lo<=(rgOf (4-k) (lastRun ps r)).hi)||(decide ((x0.get (4-k)).lo=(rgOf (4-k) (lastRun ps r)).hi+1)&&decide (p.map (zeroTo k)=(lastRun ps r).map (zeroTo k)))):=by
    rw[joinB,hal,hx0r]
    have:(lastRun ps r).isEmpty=false:=by cases hq:lastRun ps r with
     |nil=>exact absurd hq hl0
     |cons=>rfl
    rw[this,decide_eq_decide.2 (eq_comm (a:=(lastRun ps r).map (zeroTo k)))]
    rfl
   have hj:=hjoin _ hjb
   have hx0s:=hx0r.symm
   clear hjoin hjb hstep hx0r hp2
   (repeat' ((conv=>whnf);first|(with_reducible first|refine hsl ?_|refine hcan ?_|refine hsl2 ?_|refine Sb.intro 0 p.length rfl rfl zo (by rw[List.length_map,List.length_append];omega) ?_|refine Sb.intro p.length (p++more).length rfl (by rw[List.length_map]) (by rw[List.length_append];omega) (by rw[List.length_map];exact Nat.le_refl _) ?_|refine cxEqB _ _ (by rw[List.length_map];omega) (by rw[List.length_map];omega) ?_)|refine zG ?_|apply zA|(apply zI;intro h)|exact zT));(all_goals conv=>whnf)
   all_goals first
    |exact fin_f hK (by rw[hj];simp[*])
    |(refine⟨(r+1,(x0.get (4-k)).lo,(x0.get (4-k)).hi,encXs (p.map (zeroTo k))),⟨hrl,?_,.inr ⟨?_,?_,?_⟩⟩,?_,?_⟩
      ·simp only;rw[hlast1,hj];simp[*]<;>(intros;omega)
      ·simp only;rw[hlast1];exact hp1
      ·simp only;rw[hlast1,hx0s]
      ·simp only;rw[hlast1];omega
      ·simp only;omega
      ·simp only;rw[hmore];(exact leA))
 ·have e:ps.drop r=[]:=List.drop_of_length_le hrl
  rw[e,chkR]at hchk
  rw[e,List.flatten_nil]
  rcases hlast with⟨hl0,rfl⟩|⟨hl0,heq,hll⟩
  ·(repeat' ((conv=>whnf);first|refine zG ?_|apply zA|(apply zI;intro h)|exact zT));(all_goals conv=>whnf)
   exact fin_t hK hchk
  ·simp only[Prod.mk.injEq]at heq
   obtain⟨rfl,rfl,rfl⟩:=heq
   (repeat' ((conv=>whnf);first|refine zG ?_|apply zA|(apply zI;intro h)|exact zT));(all_goals conv=>whnf)
   exact fin_t hK hchk
theorem cxDiv:∀(k:Nat),k<=5->∀(l:List Bx) {K:KT},l.length<1000000000->(k=0->l≠[])->K (.sb (canB k l)) []->ACall Tryz.prog 231 [.v (.int .i64 ((5-k:Nat):Int)),encXs l] [] K
 |0,_,l,K,hl,hne,hK=>by
  refine ACall.bool (ofxDiv rfl rfl ?_)
  (repeat' ((conv=>whnf);first|refine zG ?_|apply zA|(apply zI;intro h)|exact zT));(all_goals conv=>whnf)
  refine fin_s hK ?_
  have:=List.length_pos_iff.2 (hne rfl)
  rw[canB,List.length_map,Bool.eq_iff_iff,beq_iff_eq,decide_eq_true_eq]
  omega
 |k+1,hk,l,K,hl,hne,hK=>by
  rw[show 5-(k+1)=4-k by omega]
  refine div_step k zo (fun l K h1 h2 h3=>?_) l hl hK
  rw[show((4-k:Nat):Int)+1=((5-k:Nat):Int) by omega]
  exact cxDiv k zo l h1 (fun _=>h2) h3
theorem cxVald(l:List Bx)(hl:l.length<1000000000){K:KT}(hK:K (.sb (setB l)) []):ACall Tryz.prog 210 [encXs l] [] K:=by
 have hc:∀{K:KT},K (.sb (canB 5 l)) []->ACall Tryz.prog 231 [.v (.int .i64 0),encXs l] [] K:=fun h=>cxDiv 5 (Nat.le_refl _) l hl zo h
 refine ACall.bool (ofxVald rfl rfl ?_)
 unfold setB at hK
 (repeat' ((conv=>whnf);first|(with_reducible first|refine cxVal l zo ?_|refine hc ?_)|refine zG ?_|apply zA|(apply zI;intro h)|exact zT));(all_goals conv=>whnf)
 all_goals
  simp only[List.length_map]at*
  first
   |exact fin_s hK (by rw[decide_eq_true zo,decide_eq_true zo];rfl)
   |exact fin_f hK (by rw[decide_eq_true zo,decide_eq_false zo];rfl)
   |exact fin_f hK (by rw[decide_eq_false zo];rfl)
end Go.Proofs.YtahhamfngafmcaaGreatDoor
