/- The program's packet sets: canonical. -/
import Derived.Test.YtbdikofefjljoaaGreatDoorJ20
set_option linter.unusedVariables false
set_option linter.unusedSimpArgs false
set_option maxRecDepth 100000
set_option maxHeartbeats 4000000
namespace Go.Proofs.YtbdikofefjljoaaGreatDoor
open Go Go.Vm
theorem cxEqB(a b:List Bx)(ha:a.length<1000000000000)(hb:b.length<1000000000000){K:KT}(hK:K (.sb (decide (a=b))) []):AC 237 [encXs a,encXs b] [] K:=by
 refine gO (ofxEqB rfl rfl ?_)
 (repeat' ((conv=>whnf);first|refine zG ?_|apply zA|intro h|exact zT));all_goals conv=>whnf
 ·have hl:a.length=b.length:=by
   rw[aA,aA]at h;omega
  refine gL Nat (fun k=>⟨0,[],[(0,encXs a),(1,encXs b),(12,.v (.int .i64 ((a.map encX).length:Nat))),(13,.v (.int .i64 k))]⟩) (fun k=>k<=a.length/\∀i,i<k->a[i]? =b[i]?) (fun k=>a.length-k) 0 ?_ ?_ ?_
  ·exact⟨aL _,fun i h=>absurd h (aY _)⟩
  ·(exact leA)
  intro k ⟨hk,hinv⟩
  rcases aD k a.length with hkl|hkl
  ·have hkb:k<b.length:=by omega
   obtain⟨p,hp⟩:=gex hkl
   obtain⟨q,hq⟩:=gex hkb
   (repeat' ((conv=>whnf);first|(with_reducible first|refine hJ hkl ?_|refine hJ hkb ?_|refine gZ hp ?_|refine gZ hq ?_|refine eqv_X ?_)|refine zG ?_|apply zA|intro h|exact zT));all_goals conv=>whnf
   all_goals first
    |(refine⟨k+1,⟨by omega,fun i hi=>?_⟩,by omega,?_⟩
      ·rcases aD i k with h1|h1
       ·exact hinv i h1
       ·rw[show i=k by omega,hp,hq,h]
      ·rw[aO,aN]
       (exact leA))
    |(refine fin_f hK (decide_eq_false fun e=>?_)
      subst e
      rw[hp]at hq;cases hq
      exact h rfl)
  ·have hab:a=b:=by
    apply List.ext_getElem?
    intro i
    rcases aD i k with h1|h1
    ·exact hinv i h1
    ·rw[bL zo,bL zo]
   (repeat' ((conv=>whnf);first|refine zG ?_|apply zA|intro h|exact zT));all_goals conv=>whnf
   exact fin_t hK (decide_eq_true hab)
 ·exact fin_f hK (decide_eq_false fun e=>h (by rw[e]))
noncomputable abbrev encG(g:Grp (List Bx)):AV:=.agg [.v (.int .u32 g.lo),.v (.int .u32 g.hi),encXs g.val]
def Opf(f:FuncId)(op:Bool->Bool->Bool):Prop:=∀(x y:Bool) {K:KT},K (.sb (op x y)) []->AC f [.sb x,.sb y] [] K
theorem Opf.ap{f:FuncId}{op:Bool->Bool->Bool}(h:Opf f op)(x y:Bool){K:KT}(hK:K (.sb (op x y)) []):AC f [.sb x,.sb y] [] K:=h x y hK
theorem Opf.ff{f:FuncId}{op:Bool->Bool->Bool}(h:Opf f op){K:KT}(hK:K (.sb (op false false)) []):AC f [.v (.bool false),.v (.bool false)] [] K:=
 ACall.args (ys:=[.sb false,.sb false]) ⟨Weak.bool,Weak.bool,trivial⟩ (h false false hK)
theorem opf_either:Opf 198 orB:=fun x y K hK=>cxEither x y hK
theorem opf_both:Opf 154 anB:=fun x y K hK=>cxBoth x y hK
theorem opf_without:Opf 152 woB:=fun x y K hK=>cxWout x y hK
theorem sl_app{xs zs:List AV}{n:Nat}{K:List AV->Prop}(h:xs.length=n)(hk:K xs):Sl (xs++zs) 0 n K:=
 Sl.intro (by rw[aC];omega) (by rw[cA,gF h]) hk
theorem sorted_len{M:Int}:∀(l:List Int) (c:Int),c<=M+1->l.Pairwise (· < ·)->(∀x,x∈l->c<=x/\x<=M)->c+l.length<=M+1
 |[],c,hc,_,_=>by simpa using hc
 |x::l,c,hc,hp,h=>by
  obtain⟨h1,h2⟩:=cB.1 hp
  have hx:=h x zx
  have h3:∀y,y∈l->x+1<=y/\y<=M:=fun y hy=>by have:=h1 y hy;have:=h y (aX _ hy);omega
  have:=sorted_len l (x+1) zo h2 h3
  rw[aK]
  omega
theorem gs_len{gs:List (Grp (List Bx))}(h:∀g,g∈gs->g.val≠[]):gs.length<=sizeG gs:=by
 induction gs with
 |nil=>exact aL _
 |cons g gs ih=>
  have h1:=ih fun x hx=>h x (aX _ hx)
  have h2:1<=g.val.length:=by
   have:=h g zx
   cases hv:g.val with
   |nil=>exact absurd hv this
   |cons=>simp
  simp only[sizeG,aW,cQ,aK]at*
  omega
theorem can_step(fn:FuncId)(op:Bool->Bool->Bool)(hop:Opf fn op)(most:Nat)(hm1:1<=most)(hm2:most<1000000000)(k:Nat)(hk:k<=4)
  (hIH:∀(a b:List Bx) {K:KT},okL a->okL b->a.length<1000000000->b.length<1000000000->K (.tup [encXs (if(cano op k a b).length<=most then cano op k a b else []),.sb (decide ((cano op k a b).length<=most))]) []->AC 272 [.v (.int .i64 (((4-k:Nat):Int)+1)),encXs a,encXs b,.fn (.func fn) [] [],.v (.int .i64 most)] [] K)
  (a b:List Bx){K:KT}(hoa:okL a)(hob:okL b)(ha:a.length<1000000000)(hb:b.length<1000000000)(hK:K (.tup [encXs (if(cano op (k+1) a b).length<=most then cano op (k+1) a b else []),.sb (decide ((cano op (k+1) a b).length<=most))]) []):
  AC 272 [.v (.int .i64 ((4-k:Nat):Int)),encXs a,encXs b,.fn (.func fn) [] [],.v (.int .i64 most)] [] K:=by
 have hf4:4-k<=4:=by omega
 have ht:=topF_pos (4-k)
 have hdead:a.length+b.length=0->op false false=false->cano op (k+1) a b=[]:=fun h h2=>by
  have e1:a=[]:=cE.1 zo
  have e2:b=[]:=cE.1 zo
  rw[e1,e2];exact cano_nils op h2 (k+1)
 refine gP (ofxCan rfl rfl ?_)
 (repeat' ((conv=>whnf);first|(with_reducible refine hop.ff ?_)|refine zG ?_|apply zA|intro h|exact zT));all_goals conv=>whnf
 refine Jn.at ⟨0,[],[(0,.v (.int .i64 ((4-k:Nat):Int))),(1,encXs a),(2,encXs b),(3,.fn (.func fn) [] []),(4,.v (.int .i64 most))]⟩ ?_ ?_
 ·(repeat' ((conv=>whnf);first|(with_reducible refine hop.ff ?_)|refine zG ?_|apply zA|intro h|exact zT));all_goals conv=>whnf
  ·refine⟨(),trivial,?_⟩
   (exact leA)
  ·refine⟨_,gQ gR Weak.bool,?_⟩
   rw[hdead (by simp only[aA]at*;omega) h]at hK
   rw[aP,aH (aL _),decide_eq_true (aL _)]at hK
   exact hK
  ·refine⟨(),trivial,?_⟩
   (exact leA)
 (repeat' ((conv=>whnf);first|(with_reducible refine cxCuts a b (4-k) hf4 zo zo fun st' hs hm=>?_)|refine zG ?_|apply zA|intro h|exact zT));all_goals conv=>whnf
 obtain⟨st,rfl,hcuts⟩:=cuts_of (fun x hx=>hx.elim (fun h=>hoa x h _ hf4) fun h=>hob x h _ hf4) hs hm
 have hR:∀u v,(∀r,r∈rngs (4-k) a b->((r.lo<=u/\u<=r.hi)↔(r.lo<=v/\v<=r.hi)))->restAt op k a b u=restAt op k a b v:=fun u v h=>restAt_congr h
 rw[cano_any op k a b hcuts,flatG_len]at hK
 have hstl:(0:Int)+st.length<=topF (4-k)+1:=sorted_len st 0 zo hcuts.sorted hcuts.range
 refine gL Nat (fun i=>⟨1,[(0,.arr 3 ((gsAt (restAt op k a b) (topF (4-k)) st i).map encG))],[(0,.v (.int .i64 ((4-k:Nat):Int))),(1,encXs a),(2,encXs b),(3,.fn (.func fn) [] []),(4,.v (.int .i64 most)),(12,.os 0 3 0 (gsAt (restAt op k a b) (topF (4-k)) st i).length),(13,.v (.int .i64 (sizeG (gsAt (restAt op k a b) (topF (4-k)) st i)))),(14,.lst ((st++[topF (4-k)+1]).map encZ)),(15,.v (.int .i64 i))]⟩)
  (fun i=>i<=st.length/\sizeG (gsAt (restAt op k a b) (topF (4-k)) st i)<=most) (fun i=>st.length-i) 0 ⟨aL _,aL _⟩ ?_ ?_
 ·(exact leA)
 intro i ⟨hi,hsz⟩
 rcases aD i st.length with hil|hil
 ·obtain⟨x,hx⟩:=gex hil
  have hto:=segTo_range hcuts hx
  have hgi:=gsAt_ginv hcuts hR i x hx
  have hsucc:=gsAt_succ (R:=restAt op k a b) (top:=topF (4-k)) hx
  have hle1:=gsAt_size (R:=restAt op k a b) (top:=topF (4-k)) (st:=st) (i+1)
  have hrs:=rest_size (R:=restAt op k a b) (top:=topF (4-k)) hx
  have hx':(st++[topF (4-k)+1])[i]? =some x:=by rw[bC hil];exact hx
  have hy':=segTo_next (top:=topF (4-k)) hil
  have hpl:i+1<(st++[topF (4-k)+1]).length:=by simp;omega
  have hpl0:i<(st++[topF (4-k)+1]).length:=by omega
  have hgl:=gs_len hgi.full
  obtain⟨rest,hdr⟩:∃rest,restAt op k a b x=rest:=⟨_,rfl⟩
  obtain⟨to,hdto⟩:∃to,segTo (topF (4-k)) st i=to:=⟨_,rfl⟩
  rw[hdr,hdto]at hsucc
  rw[hdr]at hrs
  rw[hdto]at hto hy'
  have hcall:∀{K:KT},K (.tup [encXs (if rest.length<=most then rest else []),.sb (decide (rest.length<=most))]) []->AC 272 [.v (.int .i64 (((4-k:Nat):Int)+1)),encXs (atF (4-k) x a),encXs (atF (4-k) x b),.fn (.func fn) [] [],.v (.int .i64 most)] [] K:=fun h=>by
   have l1:=atF_len (4-k) x a
   have l2:=atF_len (4-k) x b
   refine hIH (atF (4-k) x a) (atF (4-k) x b) (okL_at hoa) (okL_at hob) zo zo ?_
   rw[show cano op k (atF (4-k) x a) (atF (4-k) x b)=rest from hdr]
   exact h
  have hto1:to+1-1=to:=by omega
  by_cases hle:rest.length<=most
  case neg=>
   have hc2:∀{K:KT},K (.tup [encXs [],.sb false]) []->AC 272 [.v (.int .i64 (((4-k:Nat):Int)+1)),encXs (atF (4-k) x a),encXs (atF (4-k) x b),.fn (.func fn) [] [],.v (.int .i64 most)] [] K:=fun h=>hcall (by rw[aE hle,decide_eq_false hle];exact h)
   clear hcall hIH
   rw[aE zo,decide_eq_false zo]at hK
   (repeat' ((conv=>whnf);first|(with_reducible first|refine hJ hpl0 ?_|refine gS (i+1) zo (by rw[aA];exact hpl) ?_|refine gZ hx' ?_|refine gZ hy' ?_|refine wr_u64 hto1 zo zo ?_|refine cxCov a (4-k) hf4 x zo ?_|refine cxCov b (4-k) hf4 x zo ?_|refine hc2 ?_)|refine zG ?_|apply zA|intro h|exact zT));all_goals conv=>whnf
   exact⟨_,gQ gR Weak.bool,hK⟩
  have hc2:∀{K:KT},K (.tup [encXs rest,.sb true]) []->AC 272 [.v (.int .i64 (((4-k:Nat):Int)+1)),encXs (atF (4-k) x a),encXs (atF (4-k) x b),.fn (.func fn) [] [],.v (.int .i64 most)] [] K:=fun h=>hcall (by rw[aH hle,decide_eq_true hle];exact h)
  clear hcall hIH
  have hsz1:=gsAt_size (R:=restAt op k a b) (top:=topF (4-k)) (st:=st) (i+1)
  obtain⟨gs',hgs'⟩:∃gs',gsAt (restAt op k a b) (topF (4-k)) st (i+1)=gs':=⟨_,rfl⟩
  rw[hgs']at hsz1 hsucc hle1
  have next:sizeG gs'<=most->∃g':Nat,(g'<=st.length/\sizeG (gsAt (restAt op k a b) (topF (4-k)) st g')<=most)/\g'=i+1/\gsAt (restAt op k a b) (topF (4-k)) st g'=gs':=fun h=>⟨i+1,⟨hil,by rw[hgs'];exact h⟩,rfl,hgs'⟩
  generalize gsAt (restAt op k a b) (topF (4-k)) st i=gs at*
  have hsum:(sizeG gs:Int)+((rest.map encX).length:Int)=((sizeG gs+rest.length:Nat):Int):=by rw[aA];omega
  have hover:most<sizeG gs'->∃y,Weak (.tup [.nils,.v (.bool false)]) y/\K y []:=fun h=>by
   rw[aE zo,decide_eq_false zo]at hK
   exact⟨_,gQ gR Weak.bool,hK⟩
  rcases cT gs with hn|⟨ini,g,hc⟩
  ·subst hn
   have hs2:rest≠[]->gs'=[⟨x,to,rest⟩]:=fun h=>by
    rw[hsucc];unfold grow
    rw[aE (by simpa using h)];rfl
   (repeat' ((conv=>whnf);first|(with_reducible first|refine hJ hpl0 ?_|refine gS (i+1) zo (by rw[aA];exact hpl) ?_|refine gZ hx' ?_|refine gZ hy' ?_|refine wr_u64 hto1 zo zo ?_|refine cxCov a (4-k) hf4 x zo ?_|refine cxCov b (4-k) hf4 x zo ?_|refine hc2 ?_|refine wr_i64 hsum zo zo ?_)|refine zG ?_|apply zA|intro h|exact zT));all_goals conv=>whnf
   ·have e0:rest=[]:=cE.1 (by simp only[aA]at h;omega)
    rw[e0,grow_nil]at hsucc
    refine⟨i+1,⟨hil,by rw[hgs',hsucc];exact hsz⟩,by omega,?_⟩
    rw[hgs',hsucc]
    (exact leA)
   ·rename_i h0
    have e1:=hs2 fun e=>h0 (by rw[e];rfl)
    refine hover ?_
    rw[e1]
    simp only[sizeG,aW,bN,cQ,List.sum_nil]at*
    omega
   ·rename_i h0
    have e1:=hs2 fun e=>h0 (by rw[e];rfl)
    have e2:sizeG gs'=sizeG []+rest.length:=by rw[e1];simp[sizeG]
    refine⟨i+1,⟨hil,by rw[hgs'];omega⟩,by omega,?_⟩
    rw[hgs',e2,e1]
    (exact leA)
  ·rw[cU]at hc
   subst hc
   have hgl2:=hgi.low g zx
   have hgle:=hgi.wf.le g zx
   have hil2:ini.length<(ini++[g]).length:=by simp
   have hel:(ini++[g])[0+ini.length]? =some g:=by simp
   have hlen:(ini++[g]).length=ini.length+1:=by simp
   have hsz2:=sizeG_snoc ini g
   have hs2:rest≠[]->gs'=if g.hi+1=x/\g.val=rest then ini++[⟨g.lo,to,g.val⟩]else(ini++[g])++[⟨x,to,rest⟩]:=fun h=>by
    rw[hsucc];unfold grow
    rw[aE (by simpa using h)]
    simp only[cP,cJ,dP,dD,eqB_iff]
   (repeat' ((conv=>whnf);first|(with_reducible first|refine hJ hpl0 ?_|refine gS (i+1) zo (by rw[aA];exact hpl) ?_|refine gZ hx' ?_|refine gZ hy' ?_|refine wr_u64 hto1 zo zo ?_|refine cxCov a (4-k) hf4 x zo ?_|refine cxCov b (4-k) hf4 x zo ?_|refine hc2 ?_|refine gS ini.length (by rw[hlen];omega) zo ?_|refine gZ hel ?_|refine cxEqB g.val rest zo zo ?_|refine wr_i64 hsum zo zo ?_)|refine zG ?_|apply zA|intro h|exact zT));all_goals conv=>whnf
   all_goals have hne:¬(((rest.map encX).length:Nat):Int)=0->rest≠[]:=fun h e=>h (by rw[e];rfl)
   ·have e0:rest=[]:=cE.1 (by simp only[aA]at h;omega)
    rw[e0,grow_nil]at hsucc
    refine⟨i+1,⟨hil,by rw[hgs',hsucc];exact hsz⟩,by omega,?_⟩
    rw[hgs',hsucc]
    (exact leA)
   ·rename_i h0 h1
    have e1:=hs2 (hne h0)
    rw[aH ⟨h1,h⟩]at e1
    have e2:sizeG gs'=sizeG (ini++[g]):=by rw[e1,sizeG_snoc,sizeG_snoc]
    have e3:(ini++[Grp.mk g.lo to g.val]).length=(ini++[g]).length:=by rw[hlen];simp
    have e4:(ini++[Grp.mk g.lo to g.val]).map encG=((ini++[g]).map encG).set (0+ini.length) (.agg [.v (.int .u32 g.lo),.v (.int .u32 to),encXs g.val]):=by
     rw[bM,aQ,aQ,dV _ _ zx]
     simp
    refine⟨i+1,⟨hil,by rw[hgs',e2];exact hsz⟩,by omega,?_⟩
    rw[hgs',e2,e1,e3,e4]
    (exact leA)
   ·rename_i h0 h1 h2
    have e1:=hs2 (hne h0)
    rw[aE fun e=>h2 e.2]at e1
    exact hover (by rw[e1,sizeG_snoc];simp only;omega)
   ·rename_i h0 h1 h2
    have e1:=hs2 (hne h0)
    rw[aE fun e=>h2 e.2]at e1
    have e2:sizeG gs'=sizeG (ini++[g])+rest.length:=by rw[e1,sizeG_snoc]
    refine⟨i+1,⟨hil,by rw[hgs'];omega⟩,by omega,?_⟩
    rw[hgs',e2,e1,aC,aQ (l₁:=ini++[g])]
    (exact leA)
   ·rename_i h0 h1
    have e1:=hs2 (hne h0)
    rw[aE fun e=>h1 e.1]at e1
    exact hover (by rw[e1,sizeG_snoc];simp only;omega)
   ·rename_i h0 h1
    have e1:=hs2 (hne h0)
    rw[aE fun e=>h1 e.1]at e1
    have e2:sizeG gs'=sizeG (ini++[g])+rest.length:=by rw[e1,sizeG_snoc]
    refine⟨i+1,⟨hil,by rw[hgs'];omega⟩,by omega,?_⟩
    rw[hgs',e2,e1,aC,aQ (l₁:=ini++[g])]
    (exact leA)
 ·have hii:i=st.length:=by omega
  have hgf:=(gsAt_all (R:=restAt op k a b) (top:=topF (4-k)) (aJ st.length))
  have hinv:=cano_ginv op k a b hcuts
  have hpn:¬((st.length:Int)+1<(((st++[topF (4-k)+1]).map encZ).length:Nat)):=by simp
  rw[hii,hgf]at hsz⊢
  clear hIH hR hcuts hdead hm hs hgf
  generalize groupsOf (restAt op k a b) (topF (4-k)) st=gs at*
  rw[aH hsz,decide_eq_true hsz]at hK
  have hgl:=gs_len hinv.full
  (repeat' ((conv=>whnf);first|(with_reducible first|refine in_c zd ?_|refine gS (sizeG gs) rfl zo ?_|refine Ob.intro ⟨aL _,bO (dT _ (bO hsz (Nat.le_of_lt hm2))) (bW zk)⟩ ?_)|refine zG ?_|apply zA|intro h|exact zT));all_goals conv=>whnf
  refine gL (Nat×List AV) (fun g=>⟨2,[(1,.arr 10 ((flatG (4-k) (gs.take g.1)).map encX++g.2)),(0,.arr 3 (gs.map encG))],[(0,.v (.int .i64 ((4-k:Nat):Int))),(20,.os 1 10 0 (flatG (4-k) (gs.take g.1)).length),(146,.os 0 3 0 gs.length),(147,.v (.int .i64 gs.length)),(148,.v (.int .i64 g.1))]⟩)
   (fun g=>g.1<=gs.length) (fun g=>gs.length-g.1) (0,List.replicate (sizeG gs) (encX zB)) (aL _) ?_ ?_
  ·(exact leA)
  rintro⟨j,zs⟩ hj
  simp only at hj⊢
  rcases aD j gs.length with hjl|hjl
  ·obtain⟨g,hg⟩:=gex hjl
   have hg0:gs[0+j]? =some g:=by rw[bM];exact hg
   (repeat' ((conv=>whnf);first|(with_reducible first|refine hU hjl ?_|refine gZ hg0 ?_)|refine zG ?_|apply zA|intro h|exact zT));all_goals conv=>whnf
   have hghi:=hinv.low g (aG hg)
   have hgle:=hinv.wf.le g (aG hg)
   have m1:(mkR g.lo g.hi).lo=g.lo:=mkR_lo zo zo zo zo
   have m2:(mkR g.lo g.hi).hi=g.hi:=mkR_hi zo zo zo zo
   have hsu:flatG (4-k) (gs.take (j+1))=flatG (4-k) (gs.take j)++g.val.map fun b=>b.put (4-k) (mkR g.lo g.hi):=by
    rw[bH,hg];exact flatG_snoc
   have hfl1:(flatG (4-k) (gs.take j)).length+g.val.length<=sizeG gs:=by
    have h1:=flatG_len (4-k) (gs.take (j+1))
    have h2:sizeG (gs.take (j+1))<=sizeG gs:=by
     have:sizeG gs=sizeG (gs.take (j+1))+sizeG (gs.drop (j+1)):=by
      simp only[sizeG]
      rw[<-List.sum_append,<-aQ,cS]
     omega
    rw[hsu,aC,aA]at h1
    omega
   obtain⟨F,hF⟩:∃F,flatG (4-k) (gs.take j)=F:=⟨_,rfl⟩
   rw[hF]at hsu hfl1⊢
   refine gL (Nat×List AV) (fun q=>⟨3,[(2,.box [.v (.int .u32 g.lo),.v (.int .u32 g.hi),encXs g.val]),(1,.arr 10 ((F++(g.val.take q.1).map fun b=>b.put (4-k) (mkR g.lo g.hi)).map encX++q.2)),(0,.arr 3 (gs.map encG))],[(0,.v (.int .i64 ((4-k:Nat):Int))),(20,.os 1 10 0 (F.length+q.1)),(22,.op 2 0),(146,.os 0 3 0 gs.length),(147,.v (.int .i64 gs.length)),(148,.v (.int .i64 j)),(153,encXs g.val),(154,.v (.int .i64 ((g.val.map encX).length:Nat))),(155,.v (.int .i64 q.1))]⟩)
    (fun q=>q.1<=g.val.length) (fun q=>g.val.length-q.1) (0,zs) (aL _) ?_ ?_
   ·rw[cR,bN,bJ]
    (exact leA)
   rintro⟨m,ys⟩ hm
   simp only at hm⊢
   rcases aD m g.val.length with hml|hml
   ·obtain⟨z,hz⟩:=gex hml
    have hnext:(F++(g.val.take (m+1)).map fun b=>b.put (4-k) (mkR g.lo g.hi)).map encX=(F++(g.val.take m).map fun b=>b.put (4-k) (mkR g.lo g.hi)).map encX++[encX (z.put (4-k) (mkR g.lo g.hi))]:=by
     simp only[bH,hz,eB,aQ,aW,bN,dL]
    have hAl:((F++(g.val.take m).map fun b=>b.put (4-k) (mkR g.lo g.hi)).map encX).length=F.length+m:=by
     rw[aA,aC,aA,bG];omega
    generalize hA:(F++(g.val.take m).map fun b=>b.put (4-k) (mkR g.lo g.hi)).map encX=A at*
    generalize hB:(F++(g.val.take (m+1)).map fun b=>b.put (4-k) (mkR g.lo g.hi)).map encX=B at*
    obtain⟨V,hV⟩:∃V,V=encX (z.put (4-k) (mkR g.lo g.hi)):=⟨_,rfl⟩
    rw[<-hV]at hnext
    obtain rfl|rfl|rfl|rfl|rfl:k=0\/k=1\/k=2\/k=3\/k=4:=by omega
    all_goals
     simp only[Nat.reduceSub,put0,put1,put2,put3,put4,encX,m1,m2]at hV
     rw[hV]at hnext
     (repeat' ((conv=>whnf);first|(with_reducible first|refine hJ hml ?_|refine hU hml ?_|refine gZ hz ?_)|(refine in_c zd ?_)|(with_reducible refine sl_app hAl ?_)|refine zG ?_|apply zA|intro h|exact zT));all_goals conv=>whnf
     refine⟨(m+1,[]),by simp only;omega,by simp only;omega,?_⟩
     simp only
     rw[hB,hnext,bJ]
     (exact leA)
   ·(repeat' ((conv=>whnf);first|refine zG ?_|apply zA|intro h|exact zT));all_goals conv=>whnf
    have hmm:m=g.val.length:=by omega
    rw[hmm,cY,<-hsu]
    have e2:F.length+g.val.length=(flatG (4-k) (gs.take (j+1))).length:=by rw[hsu,aC,aA]
    refine⟨(j+1,ys),hjl,by simp only;omega,?_⟩
    simp only
    rw[e2]
    (exact leA)
  ·rw[bA hjl]
   (repeat' ((conv=>whnf);first|(with_reducible refine sl_app (by rw[aA]) ?_)|refine zG ?_|apply zA|intro h|exact zT));all_goals conv=>whnf
   exact⟨_,gQ gM Weak.bool,hK⟩
theorem cxCan(fn:FuncId)(op:Bool->Bool->Bool)(hop:Opf fn op)(most:Nat)(hm1:1<=most)(hm2:most<1000000000):∀(k:Nat),k<=5->∀(a b:List Bx) {K:KT},okL a->okL b->a.length<1000000000->b.length<1000000000->
  K (.tup [encXs (if(cano op k a b).length<=most then cano op k a b else []),.sb (decide ((cano op k a b).length<=most))]) []->
  AC 272 [.v (.int .i64 ((5-k:Nat):Int)),encXs a,encXs b,.fn (.func fn) [] [],.v (.int .i64 most)] [] K
 |0,_,a,b,K,hoa,hob,ha,hb,hK=>by
  rw[cano]at hK
  refine gP (ofxCan rfl rfl ?_)
  (repeat' ((conv=>whnf);first|(with_reducible refine hop.ap _ _ ?_)|refine zG ?_|apply zA|intro h|exact zT));all_goals conv=>whnf
  ·rw[dec_pos,dec_pos]at h
   rw[h,aH rfl,aH (by exact hm1),decide_eq_true (by exact hm1)]at hK
   exact⟨_,gQ gM Weak.bool,hK⟩
  ·rw[dec_pos,dec_pos]at h
   simp only[h,cL,if_false,aP,aL,if_true,decide_true,ite_self]at hK
   exact⟨_,gQ gR Weak.bool,hK⟩
 |k+1,hk,a,b,K,hoa,hob,ha,hb,hK=>by
  rw[show 5-(k+1)=4-k by omega]
  refine can_step fn op hop most hm1 hm2 k zo (fun a b K h1 h2 h3 h4 h5=>?_) a b hoa hob ha hb hK
  rw[show((4-k:Nat):Int)+1=((5-k:Nat):Int) by omega]
  exact cxCan fn op hop most hm1 hm2 k zo a b h1 h2 h3 h4 h5
def five(c0 c1 c2 c3 c4:Int):Nat->Int
 |0=>c0
 |1=>c1
 |2=>c2
 |3=>c3
 |_=>c4
noncomputable abbrev boxV(c0 c1 c2 c3 c4:Int):Vm.Obj:=.box [.v (.int .u32 c0),.v (.int .u32 c1),.v (.int .u32 c2),.v (.int .u32 c3),.v (.int .u32 c4)]
def LeastK(k:Nat)(R:List Bx)(c0 c1 c2 c3 c4:Int)(K:AV->List Vm.Obj->Prop):Prop:=
 (∀d0 d1 d2 d3 d4,(∀f,f<=4->f+k<5->five d0 d1 d2 d3 d4 f=five c0 c1 c2 c3 c4 f)->(R≠[]->∀f,f<=4->5<=f+k->five d0 d1 d2 d3 d4 f=lows R f)->K (.sb (!R.isEmpty)) [boxV d0 d1 d2 d3 d4])
theorem least_step(fn:FuncId)(hfn:fn=152)(op:Bool->Bool->Bool)(hop:Opf fn op)(k:Nat)(hk:k<=4)
  (hIH:∀(a b:List Bx) (c0 c1 c2 c3 c4:Int) {K:KT},okL a->okL b->a.length<1000000000->b.length<1000000000->LeastK k (cano op k a b) c0 c1 c2 c3 c4 K->AC 238 [.v (.int .i64 (((4-k:Nat):Int)+1)),encXs a,encXs b,.fn (.func fn) [] [],.op 0 0] [boxV c0 c1 c2 c3 c4] K)
  (a b:List Bx)(c0 c1 c2 c3 c4:Int){K:KT}(hoa:okL a)(hob:okL b)(ha:a.length<1000000000)(hb:b.length<1000000000)(hK:LeastK (k+1) (cano op (k+1) a b) c0 c1 c2 c3 c4 K):
  AC 238 [.v (.int .i64 ((4-k:Nat):Int)),encXs a,encXs b,.fn (.func fn) [] [],.op 0 0] [boxV c0 c1 c2 c3 c4] K:=by
 have hf4:4-k<=4:=by omega
 have ht:=topF_pos (4-k)
 have hTop:∀{K:KT},K (.v (.int .u32 (topF (4-k)))) []->AC 143 [.v (.int .i64 ((4-k:Nat):Int))] [] K:=fun h=>cxTop _ (by rw[topI_nat hf4];exact h)
 have hdead:a.length+b.length=0->op false false=false->cano op (k+1) a b=[]:=fun h h2=>by
  have e1:a=[]:=cE.1 zo
  have e2:b=[]:=cE.1 zo
  rw[e1,e2];exact cano_nils op h2 (k+1)
 subst hfn
 refine gO (ofxLst rfl rfl ?_)
 (repeat' ((conv=>whnf);first|(with_reducible refine hop.ff ?_)|refine zG ?_|apply zA|intro h|exact zT));all_goals conv=>whnf
 refine Jn.at ⟨1,[(0,boxV c0 c1 c2 c3 c4)],[(0,.v (.int .i64 ((4-k:Nat):Int))),(1,encXs a),(2,encXs b),(3,.fn (.func 152) [] []),(4,.op 0 0)]⟩ ?_ ?_
 ·(repeat' ((conv=>whnf);first|(with_reducible refine hop.ff ?_)|refine zG ?_|apply zA|intro h|exact zT));all_goals conv=>whnf
  ·refine⟨(),trivial,?_⟩
   (exact leA)
  ·have e:=hdead (by simp only[aA]at*;omega) h
   rw[e]at hK
   exact .inl ⟨false,rfl,hK c0 c1 c2 c3 c4 (fun _ _ _=>rfl) fun h=>absurd rfl h⟩
  ·refine⟨(),trivial,?_⟩
   (exact leA)
 (repeat' ((conv=>whnf);first|(with_reducible refine cxCuts a b (4-k) hf4 zo zo fun st' hs hm=>?_)|refine zG ?_|apply zA|intro h|exact zT));all_goals conv=>whnf
 obtain⟨st,rfl,hcuts⟩:=cuts_of (fun x hx=>hx.elim (fun h=>hoa x h _ hf4) fun h=>hob x h _ hf4) hs hm
 have hstl:(0:Int)+st.length<=topF (4-k)+1:=sorted_len st 0 zo hcuts.sorted hcuts.range
 have hpl:(st++[topF (4-k)+1]).length=st.length+1:=by simp
 refine gL (Nat×Int×Int×Int×Int×Int) (fun g=>⟨1,[(0,boxV g.2.1 g.2.2.1 g.2.2.2.1 g.2.2.2.2.1 g.2.2.2.2.2)],[(0,.v (.int .i64 ((4-k:Nat):Int))),(1,encXs a),(2,encXs b),(3,.fn (.func 152) [] []),(4,.op 0 0),(38,.lst ((st++[topF (4-k)+1]).map encZ)),(39,.v (.int .i64 (((st++[topF (4-k)+1]).map encZ).length:Nat))),(40,.v (.int .i64 g.1))]⟩)
  (fun g=>g.1<=st.length/\(∀f,f<=4->f+(k+1)<5->five g.2.1 g.2.2.1 g.2.2.2.1 g.2.2.2.2.1 g.2.2.2.2.2 f=five c0 c1 c2 c3 c4 f)/\∀(j:Nat) y,j<g.1->st[j]? =some y->restAt op k a b y=[]) (fun g=>st.length-g.1) (0,c0,c1,c2,c3,c4) ⟨aL _,fun _ _ _=>rfl,fun j y h=>absurd h (aY _)⟩ ?_ ?_
 ·(exact leA)
 rintro⟨i,e0,e1,e2,e3,e4⟩ ⟨hi,hsame,hno⟩
 simp only at hi hsame hno⊢
 have hpi:i<(st++[topF (4-k)+1]).length:=by omega
 rcases aD i st.length with hil|hil
 ·obtain⟨x,hx⟩:=gex hil
  have hxr:=hcuts.range x (aG hx)
  have hx':(st++[topF (4-k)+1])[i]? =some x:=by rw[bC hil];exact hx
  have l1:=atF_len (4-k) x a
  have l2:=atF_len (4-k) x b
  have hno2:restAt op k a b x=[]->∀(j:Nat) y,j<i+1->st[j]? =some y->restAt op k a b y=[]:=fun he j y hj hy=>by
   rcases aD j i with h1|h1
   ·exact hno j y h1 hy
   ·rw[show j=i by omega,hx]at hy
    cases hy;exact he
  have hcov1:∀{K:KT},K (encXs (atF (4-k) x a)) []->AC 289 [encXs a,.v (.int .i64 ((4-k:Nat):Int)),.v (.int .u32 x)] [] K:=fun h=>cxCov a (4-k) hf4 x zo h
  have hcov2:∀{K:KT},K (encXs (atF (4-k) x b)) []->AC 289 [encXs b,.v (.int .i64 ((4-k:Nat):Int)),.v (.int .u32 x)] [] K:=fun h=>cxCov b (4-k) hf4 x zo h
  have hcall:∀(g0 g1 g2 g3 g4:Int) {K:KT},LeastK k (restAt op k a b x) g0 g1 g2 g3 g4 K->AC 238 [.v (.int .i64 (((4-k:Nat):Int)+1)),encXs (atF (4-k) x a),encXs (atF (4-k) x b),.fn (.func 152) [] [],.op 0 0] [boxV g0 g1 g2 g3 g4] K:=fun g0 g1 g2 g3 g4 {K} h=>hIH _ _ g0 g1 g2 g3 g4 (okL_at hoa) (okL_at hob) zo zo h
  have hlows:=lows_cano (op:=op) (a:=a) (b:=b) hk hcuts hx
  clear hIH hm hs hpl
  generalize restAt op k a b x=rest at*
  obtain⟨kk,hkk⟩:∃kk,k=kk:=⟨k,rfl⟩
  have hlowk:rest≠[]->(cano op (kk+1) a b≠[]/\lows (cano op (kk+1) a b) (4-kk)=x/\∀f,f<=4->f≠4-kk->lows (cano op (kk+1) a b) f=lows rest f):=fun h=>by rw[<-hkk];exact hlows h hno
  have hKk:LeastK (kk+1) (cano op (kk+1) a b) c0 c1 c2 c3 c4 K:=by rw[<-hkk];exact hK
  obtain rfl|rfl|rfl|rfl|rfl:k=0\/k=1\/k=2\/k=3\/k=4:=by omega
  all_goals
   (repeat' ((conv=>whnf);first|(with_reducible first|refine hJ hpi ?_|refine gZ hx' ?_|refine hTop ?_)|(refine in_c zd ?_)|(with_reducible first|refine hcov1 ?_|refine hcov2 ?_)|(refine hcall _ _ _ _ _ ?_)|refine zG ?_|apply zA|intro h|exact zT));all_goals conv=>whnf
   all_goals rename_i d0 d1 d2 d3 d4 hd1 hd2
   (repeat' ((conv=>whnf);first|refine zG ?_|apply zA|intro h|exact zT));all_goals conv=>whnf
   ·have hre:rest=[]:=eV.1 h
    refine⟨(i+1,d0,d1,d2,d3,d4),⟨hil,fun f h1 h2=>?_,hno2 hre⟩,by simp only;omega,?_⟩
    ·simp only
     have h5:=hd1 f h1 zo
     have h6:=hsame f h1 h2
     obtain rfl|rfl|rfl|rfl|rfl:f=0\/f=1\/f=2\/f=3\/f=4:=by omega
     all_goals first|omega|(simp only[five]at h5 h6⊢;omega)
    ·simp only
     rw[aO,aN]
     (exact leA)
   ·have hre:rest≠[]:=fun e=>by rw[e]at h;cases h
    obtain⟨n1,n2,n3⟩:=hlowk hre
    have hb1:(cano op (kk+1) a b).isEmpty=false:=by
     cases hc:cano op (kk+1) a b with
     |nil=>exact absurd hc n1
     |cons=>rfl
    have hfin:=hKk d0 d1 d2 d3 d4 (fun f h1 h2=>by
     have h5:=hd1 f h1 zo
     have h6:=hsame f h1 zo
     obtain rfl|rfl|rfl|rfl|rfl:f=0\/f=1\/f=2\/f=3\/f=4:=by omega
     all_goals first|omega|(simp only[five]at h5 h6⊢;omega)) (fun _ f h1 h2=>by
     rcases aD (f+kk) 5 with h3|h3
     ·have hf:f=4-kk:=by omega
      rw[hf,n2,hd1 _ zo zo]
      subst hkk
      rfl
     ·rw[n3 f h1 zo,hd2 hre f h1 zo])
    rw[hb1]at hfin
    exact .inl ⟨true,rfl,hfin⟩
 ·have hie:i=st.length:=by omega
  have hx':(st++[topF (4-k)+1])[i]? =some (topF (4-k)+1):=by rw[hie];simp
  have hnil:cano op (k+1) a b=[]:=by
   have inv:=cano_ginv op k a b hcuts
   rw[cano_any op k a b hcuts,flatG_nil inv.full,<-gsAt_all (aJ st.length)]
   exact gsAt_nil _ fun j y hj hy=>hno j y zo hy
  rw[hnil]at hK
  (repeat' ((conv=>whnf);first|(with_reducible first|refine hJ hpi ?_|refine gZ hx' ?_|refine hTop ?_)|refine zG ?_|apply zA|intro h|exact zT));all_goals conv=>whnf
  exact .inl ⟨false,rfl,hK e0 e1 e2 e3 e4 (fun f h1 h2=>hsame f h1 h2) fun h=>absurd rfl h⟩
theorem cxLst(fn:FuncId)(hfn:fn=152)(op:Bool->Bool->Bool)(hop:Opf fn op):∀(k:Nat),k<=5->∀(a b:List Bx) (c0 c1 c2 c3 c4:Int) {K:KT},okL a->okL b->a.length<1000000000->b.length<1000000000->LeastK k (cano op k a b) c0 c1 c2 c3 c4 K->
  AC 238 [.v (.int .i64 ((5-k:Nat):Int)),encXs a,encXs b,.fn (.func fn) [] [],.op 0 0] [boxV c0 c1 c2 c3 c4] K
 |0,_,a,b,c0,c1,c2,c3,c4,K,hoa,hob,ha,hb,hK=>by
  have hk:K (.sb (op (!a.isEmpty) (!b.isEmpty))) [boxV c0 c1 c2 c3 c4]:=by
   have:=hK c0 c1 c2 c3 c4 (fun _ _ _=>rfl) (fun _ f h1 h2=>by omega)
   rw[cano]at this
   cases hc:op (!a.isEmpty) (!b.isEmpty)<;>rw[hc]at this<;>exact this
  subst hfn
  refine gO (ofxLst rfl rfl ?_)
  (repeat' ((conv=>whnf);first|(with_reducible refine hop.ap _ _ ?_)|refine zG ?_|apply zA|intro h|exact zT));all_goals conv=>whnf
  rw[dec_pos,dec_pos]
  exact .inr ⟨_,rfl,hk⟩
 |k+1,hk,a,b,c0,c1,c2,c3,c4,K,hoa,hob,ha,hb,hK=>by
  rw[show 5-(k+1)=4-k by omega]
  refine least_step fn hfn op hop k zo (fun a b c0 c1 c2 c3 c4 K h1 h2 h3 h4 h5=>?_) a b c0 c1 c2 c3 c4 hoa hob ha hb hK
  rw[show((4-k:Nat):Int)+1=((5-k:Nat):Int) by omega]
  exact cxLst fn hfn op hop k zo a b c0 c1 c2 c3 c4 h1 h2 h3 h4 h5
theorem ix_set{xs:List AV}{i:Nat}{x:AV}{K:AV->Prop}(h:i<xs.length)(hk:K x):Ix (xs.set i x) i K:=
 gT (by rw[List.getElem?_set_self h]) hk
theorem cxRests(l:List Bx)(f:Nat)(hf:f<=4)(hl:l.length<1000000000){K:KT}(hK:K (encXs (l.map (zeroTo (4-f)))) []):AC 236 [.v (.int .i64 f),encXs l] [] K:=by
 refine gP (ofxRests rfl rfl ?_)
 (repeat' ((conv=>whnf);first|refine zG ?_|apply zA|intro h|exact zT));all_goals conv=>whnf
 refine cxClone l hl (fun e=>?_) ?_
 ·subst e
  (repeat' ((conv=>whnf);first|refine zG ?_|apply zA|intro h|exact zT));all_goals conv=>whnf
  refine Lp.times 1 ?_
  (repeat' ((conv=>whnf);first|refine zG ?_|apply zA|intro h|exact zT));all_goals conv=>whnf
  exact⟨_,gR,hK⟩
 ·(repeat' ((conv=>whnf);first|refine zG ?_|apply zA|intro h|exact zT));all_goals conv=>whnf
  refine gL Nat (fun i=>⟨1,[(0,.arr 10 (((l.take i).map (zeroTo (4-f))++l.drop i).map encX))],[(0,.v (.int .i64 f)),(5,.os 0 10 0 l.length),(11,.v (.int .i64 l.length)),(12,.v (.int .i64 i))]⟩) (fun i=>i<=l.length) (fun i=>l.length-i) 0 (aL _) ?_ ?_
  ·rw[cR,cA]
   (exact leA)
  intro i hi
  rcases aD i l.length with hil|hil
  ·obtain⟨x,hx⟩:=gex hil
   have hd:l.drop i=x::l.drop (i+1):=by
    rw[aB hil]at hx
    rw[<-bE hx,<-aZ hil]
   have htl:((l.take i).map (zeroTo (4-f))).length=i:=by rw[aA,bG];omega
   have hget:((l.take i).map (zeroTo (4-f))++l.drop i)[0+i]? =some x:=by
    rw[bM,bB zo,htl,dN,hd];rfl
   have hset:∀y:Bx,(((l.take i).map (zeroTo (4-f))++l.drop i).map encX).set (0+i) (encX y)=((l.take i).map (zeroTo (4-f))++y::l.drop (i+1)).map encX:=fun y=>by
    rw[bM,<-fG,dV _ _ zo,htl,dN,hd]
    rfl
   have hnext:(l.take (i+1)).map (zeroTo (4-f))++l.drop (i+1)=(l.take i).map (zeroTo (4-f))++zeroTo (4-f) x::l.drop (i+1):=by
    rw[bH,hx,aQ,dL];rfl
   have hlen:0+i<(((l.take i).map (zeroTo (4-f))++l.drop i).map encX).length:=by
    rw[aA,aC,htl,eU];omega
   generalize hA:(l.take i).map (zeroTo (4-f))++l.drop i=A at*
   rcases f with _|_|_|_|_|f
   case succ.succ.succ.succ.succ=>omega
   all_goals
    (repeat' ((conv=>whnf);first|(with_reducible first|refine Lp.times 7 ?_|refine hU hil ?_|refine gZ hget ?_|refine ix_set (by simpa only[gE]using hlen) ?_)|(refine in_c zd ?_)|refine zG ?_|apply zA|intro h|exact zT));all_goals conv=>whnf
    refine⟨i+1,hil,by omega,?_⟩
    try simp only[List.set_set]
    rw[hnext,<-hset,aO,aN]
    (exact leA)
  ·rw[bA hil,bU hil,bJ]
   (repeat' ((conv=>whnf);first|(with_reducible refine sl_full (by rw[aA,aA]) ?_)|refine zG ?_|apply zA|intro h|exact zT));all_goals conv=>whnf
   exact⟨_,gM,hK⟩
theorem limB{l:List Bx}:limP l=(if l.length<=4096 then l else []):=by
 unfold limP;split<;>split<;>first|rfl|omega
theorem cxComb(fn:FuncId)(op:Bool->Bool->Bool)(hop:Opf fn op)(a b:List Bx)(hoa:okL a)(hob:okL b)(ha:a.length<1000000000)(hb:b.length<1000000000){K:KT}(hK:K (.tup [encXs (limP (cano op 5 a b)),.v (.int .i64 (limE (cano op 5 a b)))]) []):
  AC 197 [encXs a,encXs b,.fn (.func fn) [] []] [] K:=by
 have hcan:∀{K:KT},K (.tup [encXs (if(cano op 5 a b).length<=4096 then cano op 5 a b else []),.sb (decide ((cano op 5 a b).length<=4096))]) []->AC 272 [.v (.int .i64 0),encXs a,encXs b,.fn (.func fn) [] [],.v (.int .i64 4096)] [] K:=
  fun h=>cxCan fn op hop 4096 zd zd 5 (aJ _) a b hoa hob ha hb h
 refine gP (ofxComb rfl rfl ?_)
 unfold limE at hK
 rw[limB]at hK
 (repeat' ((conv=>whnf);first|(with_reducible refine hcan ?_)|refine zG ?_|apply zA|intro h|exact zT));all_goals conv=>whnf
 ·rw[aE (c:=4096<_) zo]at hK
  exact⟨_,gM,hK⟩
 ·rw[aE h,aH zo]at hK
  exact⟨_,gQ gR gM,hK⟩
theorem div_step(k:Nat)(hk:k<=4)(hIH:∀(l:List Bx) {K:KT},l.length<1000000000->l≠[]->K (.sb (canB k l)) []->AC 150 [.v (.int .i64 (((4-k:Nat):Int)+1)),encXs l] [] K)
  (l:List Bx)(hl:l.length<1000000000){K:KT}(hK:K (.sb (canB (k+1) l)) []):AC 150 [.v (.int .i64 ((4-k:Nat):Int)),encXs l] [] K:=by
 have hf4:4-k<=4:=by omega
 have hP:=runs_parts (4-k) l
 have hfl:=runs_flat (4-k) l
 have hal:∀{a b:List Bx},alike (4-k+1) a b=decide (a.map (zeroTo k)=b.map (zeroTo k)):=fun {a b}=>by
  rw[show 4-k+1=5-k by omega,bD,aI];exact alike_iff
 rw[canB]at hK
 generalize runsF (4-k) l=ps at*
 have hflen:ps.flatten.length=l.length:=by rw[hfl]
 refine gO (ofxDiv rfl rfl ?_)
 (repeat' ((conv=>whnf);first|refine zG ?_|apply zA|intro h|exact zT));all_goals conv=>whnf
 refine gL (Nat×Int×Int×AV) (fun r=>⟨1,[(0,.box [.v (.int .u32 r.2.1),.v (.int .u32 r.2.2.1),r.2.2.2])],[(0,.v (.int .i64 ((4-k:Nat):Int))),(1,encXs (ps.drop r.1).flatten),(5,.op 0 0)]⟩)
  (fun r=>r.1<=ps.length/\chkR (canB k) (4-k) [] ps=chkR (canB k) (4-k) (lastRun ps r.1) (ps.drop r.1)/\((lastRun ps r.1=[]/\r.2.2.2=.nils)\/(lastRun ps r.1≠[]/\r.2=((rgOf (4-k) (lastRun ps r.1)).lo,(rgOf (4-k) (lastRun ps r.1)).hi,encXs ((lastRun ps r.1).map (zeroTo k)))/\(lastRun ps r.1).length<=l.length))) (fun r=>ps.length-r.1) (0,0,0,.nils) ⟨aL _,by rw[cA];rfl,.inl ⟨rfl,rfl⟩⟩ ?_ ?_
 ·rw[cA,hfl]
  (exact leA)
 rintro⟨r,lo,hi,y⟩ ⟨hr,hchk,hlast⟩
 simp only at hr hchk hlast⊢
 have hsufl:(ps.drop r).flatten.length<=l.length:=by
  rw[<-hflen]
  have:ps.flatten=(ps.take r).flatten++(ps.drop r).flatten:=by rw[<-List.flatten_append,cS]
  rw[this,aC];omega
 rcases aD r ps.length with hrl|hrl
 ·obtain⟨p,hp⟩:=gex hrl
  obtain⟨hp1,hp2⟩:=hP.mem p (aG hp)
  have hplen:0<p.length:=dC.2 hp1
  have hdrop:ps.drop r=p::ps.drop (r+1):=by
   rw[aB hrl]at hp
   rw[<-bE hp,<-aZ hrl]
  obtain⟨more,hmore⟩:∃more,(ps.drop (r+1)).flatten=more:=⟨_,rfl⟩
  have hsuf:(ps.drop r).flatten=p++more:=by rw[hdrop,eH,hmore]
  rw[hsuf]at hsufl⊢
  rw[aC]at hsufl
  obtain⟨x0,hx0⟩:=gex hplen
  have hlx0:(p++more)[0]? =some x0:=by rw[bC hplen];exact hx0
  have hx0r:x0.get (4-k)=rgOf (4-k) p:=hp2 x0 (aG hx0)
  have hends:more=[]\/∃y,(p++more)[p.length]? =some y/\y.get (4-k)≠x0.get (4-k):=by
   rcases aD (r+1) ps.length with hn|hn
   ·obtain⟨q,hq⟩:∃q,ps[r+1]? =some q:=⟨_,aB hn⟩
    obtain⟨hq1,hq2⟩:=hP.mem q (aG hq)
    obtain⟨y,hy⟩:∃y,q[0]? =some y:=⟨_,aB (dC.2 hq1)⟩
    refine .inr ⟨y,?_,?_⟩
    ·have hd2:ps.drop (r+1)=q::ps.drop (r+2):=by
      rw[aB hn]at hq
      rw[<-bE hq,<-aZ hn]
     rw[<-hmore,hd2,eH,bB (aJ _),dN,bC (dC.2 hq1)]
     exact hy
    ·rw[hq2 y (aG hy),hx0r]
     exact(hP.next hp hq).symm
   ·left
    rw[<-hmore,bU zo];rfl
  have hpl0:0<(p++more).length:=by rw[aC];omega
  have hstep:chkR (canB k) (4-k) [] ps=(!joinB (4-k) (lastRun ps r) p&&canB k p&&chkR (canB k) (4-k) p (ps.drop (r+1))):=by rw[hchk,hdrop,chkR]
  have hlast1:lastRun ps (r+1)=p:=by rw[lastRun,hp];rfl
  have hrests:∀{K:KT},K (encXs (p.map (zeroTo k))) []->AC 236 [.v (.int .i64 ((4-k:Nat):Int)),encXs p] [] K:=fun h=>cxRests p (4-k) hf4 zo (by rw[show 4-(4-k)=k by omega];exact h)
  have hsl:∀{K:List AV->Prop},K (p.map encX)->Sl ((p++more).map encX) 0 (p.length-0) K:=fun {K} h=>by
   refine sl_map (by rw[aC];omega) ?_
   rw[cA,dZ,gF rfl]
   exact h
  have hx0l:=(x0.get (4-k)).l1
  have hx0l0:=(x0.get (4-k)).l0
  have hcan:∀{K:KT},K (.sb (canB k p)) []->AC 150 [.v (.int .i64 (((4-k:Nat):Int)+1)),encXs p] [] K:=fun h=>hIH p zo hp1 h
  have hsl2:∀{K:List AV->Prop},K (more.map encX)->Sl ((p++more).map encX) p.length ((p++more).length-p.length) K:=fun {K} h=>by
   refine sl_map (by rw[aC];omega) ?_
   rw[List.drop_left' rfl,bA (by rw[aC];omega)]
   exact h
  have hml:(more.map encX).length=more.length:=aA ..
  have hjoin:∀(z:Bool),joinB (4-k) (lastRun ps r) p=z->chkR (canB k) (4-k) [] ps=(!z&&canB k p&&chkR (canB k) (4-k) p (ps.drop (r+1))):=fun z h=>by rw[hstep,h]
  rcases hlast with⟨hl0,rfl⟩|⟨hl0,heq,hll⟩
  ·(repeat' ((conv=>whnf);first|refine zG ?_|apply zA|intro h|exact zT));all_goals conv=>whnf
   refine Jn.at ⟨1,[(0,.box [.v (.int .u32 lo),.v (.int .u32 hi),.nils])],[(0,.v (.int .i64 ((4-k:Nat):Int))),(1,encXs (p++more)),(5,.op 0 0),(6,.v (.int .i64 p.length))]⟩ ?_ ?_
   ·(repeat' ((conv=>whnf);first|refine zG ?_|apply zA|intro h|exact zT));all_goals conv=>whnf
    refine gL Nat (fun j=>⟨1,[(0,.box [.v (.int .u32 lo),.v (.int .u32 hi),.nils])],[(0,.v (.int .i64 ((4-k:Nat):Int))),(1,encXs (p++more)),(5,.op 0 0),(6,.v (.int .i64 j))]⟩) (fun j=>1<=j/\j<=p.length) (fun j=>p.length-j) 1 ⟨aJ _,hplen⟩ ?_ ?_
    ·(exact leA)
    intro j ⟨hj0,hj⟩
    clear hchk hK hIH hP hrests hsl hstep
    rcases aD j p.length with hjl|hjl
    ·obtain⟨x,hx⟩:=gex hjl
     have hlx:(p++more)[j]? =some x:=by rw[bC hjl];exact hx
     have hxr:x.get (4-k)=x0.get (4-k):=by rw[hp2 x (aG hx),hx0r]
     have hjl2:j<(p++more).length:=by rw[aC];omega
     obtain rfl|rfl|rfl|rfl|rfl:k=0\/k=1\/k=2\/k=3\/k=4:=by omega
     all_goals
      (repeat' ((conv=>whnf);first|(with_reducible first|refine hJ hjl2 ?_|refine gS 0 rfl (by rw[aA];exact hpl0) ?_|refine gZ hlx ?_|refine gZ hlx0 ?_)|(refine in_c zd ?_)|(with_reducible refine eqv_R ?_)|refine zG ?_|apply zA|intro h|exact zT));all_goals conv=>whnf
      all_goals first
       |(exfalso;exact h hxr)
       |(refine⟨j+1,by omega,by omega,?_⟩
         rw[aO,aN]
         (exact leA))
    ·have hjp:j=p.length:=by omega
     subst hjp
     rcases hends with hend|⟨w,hlw,hne⟩
     ·subst hend
      rw[bJ]at*
      (repeat' ((conv=>whnf);first|refine zG ?_|apply zA|intro h|exact zT));all_goals conv=>whnf
      refine⟨(),trivial,?_⟩
      (exact leA)
     ·have hlwl:p.length<(p++more).length:=(aM.1 hlw).1
      obtain rfl|rfl|rfl|rfl|rfl:k=0\/k=1\/k=2\/k=3\/k=4:=by omega
      all_goals
       (repeat' ((conv=>whnf);first|(with_reducible first|refine hJ hlwl ?_|refine gS 0 rfl (by rw[aA];exact hpl0) ?_|refine gZ hlw ?_|refine gZ hlx0 ?_)|(refine in_c zd ?_)|(with_reducible refine eqv_R ?_)|refine zG ?_|apply zA|intro h|exact zT));all_goals conv=>whnf
       all_goals first
        |(exfalso;exact hne h)
        |(refine⟨(),trivial,?_⟩
          (exact leA))
   refine Jn.at ⟨2,[(1,.box [.v (.int .u32 (x0.get (4-k)).lo),.v (.int .u32 (x0.get (4-k)).hi),encXs (p.map (zeroTo k))]),(0,.box [.v (.int .u32 lo),.v (.int .u32 hi),.nils])],[(0,.v (.int .i64 ((4-k:Nat):Int))),(1,encXs (p++more)),(5,.op 0 0),(6,.v (.int .i64 p.length)),(7,.op 1 0)]⟩ ?_ ?_
   ·clear hchk hK hIH hP hstep
    obtain rfl|rfl|rfl|rfl|rfl:k=0\/k=1\/k=2\/k=3\/k=4:=by omega
    all_goals
     (repeat' ((conv=>whnf);first|(with_reducible first|refine gS 0 rfl (by rw[aA];exact hpl0) ?_|refine gZ hlx0 ?_)|(refine in_c zd ?_)|(with_reducible first|refine gV 0 p.length rfl rfl zo (by rw[aA,aC];omega) ?_|refine hsl ?_|refine hrests ?_)|refine zG ?_|apply zA|intro h|exact zT));all_goals conv=>whnf
     all_goals
      refine⟨(),trivial,?_⟩
      (exact leA)
   have hj:=hjoin false (by rw[hl0];rfl)
   have hx0s:=hx0r.symm
   clear hx0r hp2
   (repeat' ((conv=>whnf);first|(with_reducible first|refine hsl ?_|refine hcan ?_|refine hsl2 ?_|refine gV 0 p.length rfl rfl zo (by rw[aA,aC];omega) ?_|refine gV p.length (p++more).length rfl (by rw[aA]) (by rw[aC];omega) (by rw[aA];exact aJ _) ?_)|refine zG ?_|apply zA|intro h|exact zT));all_goals conv=>whnf
   all_goals first
    |exact fin_f hK (by rw[hj];simp[*])
    |(refine⟨(r+1,(x0.get (4-k)).lo,(x0.get (4-k)).hi,encXs (p.map (zeroTo k))),⟨hrl,?_,.inr ⟨?_,?_,?_⟩⟩,?_,?_⟩
      ·simp only;rw[hlast1,hj];simp[*]<;>(intros;omega)
      ·simp only;rw[hlast1];exact hp1
      ·simp only;rw[hlast1,hx0s]
      ·simp only;rw[hlast1];omega
      ·simp only;omega
      ·simp only;rw[hmore];(exact leA))
  ·simp only[Prod.mk.injEq]at heq
   obtain⟨rfl,rfl,rfl⟩:=heq
   (repeat' ((conv=>whnf);first|refine zG ?_|apply zA|intro h|exact zT));all_goals conv=>whnf
   refine Jn.at ⟨1,[(0,.box [.v (.int .u32 (rgOf (4-k) (lastRun ps r)).lo),.v (.int .u32 (rgOf (4-k) (lastRun ps r)).hi),encXs ((lastRun ps r).map (zeroTo k))])],[(0,.v (.int .i64 ((4-k:Nat):Int))),(1,encXs (p++more)),(5,.op 0 0),(6,.v (.int .i64 p.length))]⟩ ?_ ?_
   ·(repeat' ((conv=>whnf);first|refine zG ?_|apply zA|intro h|exact zT));all_goals conv=>whnf
    refine gL Nat (fun j=>⟨1,[(0,.box [.v (.int .u32 (rgOf (4-k) (lastRun ps r)).lo),.v (.int .u32 (rgOf (4-k) (lastRun ps r)).hi),encXs ((lastRun ps r).map (zeroTo k))])],[(0,.v (.int .i64 ((4-k:Nat):Int))),(1,encXs (p++more)),(5,.op 0 0),(6,.v (.int .i64 j))]⟩) (fun j=>1<=j/\j<=p.length) (fun j=>p.length-j) 1 ⟨aJ _,hplen⟩ ?_ ?_
    ·(exact leA)
    intro j ⟨hj0,hj⟩
    clear hchk hK hIH hP hrests hsl hstep
    rcases aD j p.length with hjl|hjl
    ·obtain⟨x,hx⟩:=gex hjl
     have hlx:(p++more)[j]? =some x:=by rw[bC hjl];exact hx
     have hxr:x.get (4-k)=x0.get (4-k):=by rw[hp2 x (aG hx),hx0r]
     have hjl2:j<(p++more).length:=by rw[aC];omega
     obtain rfl|rfl|rfl|rfl|rfl:k=0\/k=1\/k=2\/k=3\/k=4:=by omega
     all_goals
      (repeat' ((conv=>whnf);first|(with_reducible first|refine hJ hjl2 ?_|refine gS 0 rfl (by rw[aA];exact hpl0) ?_|refine gZ hlx ?_|refine gZ hlx0 ?_)|(refine in_c zd ?_)|(with_reducible refine eqv_R ?_)|refine zG ?_|apply zA|intro h|exact zT));all_goals conv=>whnf
      all_goals first
       |(exfalso;exact h hxr)
       |(refine⟨j+1,by omega,by omega,?_⟩
         rw[aO,aN]
         (exact leA))
    ·have hjp:j=p.length:=by omega
     subst hjp
     rcases hends with hend|⟨w,hlw,hne⟩
     ·subst hend
      rw[bJ]at*
      (repeat' ((conv=>whnf);first|refine zG ?_|apply zA|intro h|exact zT));all_goals conv=>whnf
      refine⟨(),trivial,?_⟩
      (exact leA)
     ·have hlwl:p.length<(p++more).length:=(aM.1 hlw).1
      obtain rfl|rfl|rfl|rfl|rfl:k=0\/k=1\/k=2\/k=3\/k=4:=by omega
      all_goals
       (repeat' ((conv=>whnf);first|(with_reducible first|refine hJ hlwl ?_|refine gS 0 rfl (by rw[aA];exact hpl0) ?_|refine gZ hlw ?_|refine gZ hlx0 ?_)|(refine in_c zd ?_)|(with_reducible refine eqv_R ?_)|refine zG ?_|apply zA|intro h|exact zT));all_goals conv=>whnf
       all_goals first
        |(exfalso;exact hne h)
        |(refine⟨(),trivial,?_⟩
          (exact leA))
   refine Jn.at ⟨2,[(1,.box [.v (.int .u32 (x0.get (4-k)).lo),.v (.int .u32 (x0.get (4-k)).hi),encXs (p.map (zeroTo k))]),(0,.box [.v (.int .u32 (rgOf (4-k) (lastRun ps r)).lo),.v (.int .u32 (rgOf (4-k) (lastRun ps r)).hi),encXs ((lastRun ps r).map (zeroTo k))])],[(0,.v (.int .i64 ((4-k:Nat):Int))),(1,encXs (p++more)),(5,.op 0 0),(6,.v (.int .i64 p.length)),(7,.op 1 0)]⟩ ?_ ?_
   ·clear hchk hK hIH hP hstep
    obtain rfl|rfl|rfl|rfl|rfl:k=0\/k=1\/k=2\/k=3\/k=4:=by omega
    all_goals
     (repeat' ((conv=>whnf);first|(with_reducible first|refine gS 0 rfl (by rw[aA];exact hpl0) ?_|refine gZ hlx0 ?_)|(refine in_c zd ?_)|(with_reducible first|refine gV 0 p.length rfl rfl zo (by rw[aA,aC];omega) ?_|refine hsl ?_|refine hrests ?_)|refine zG ?_|apply zA|intro h|exact zT));all_goals conv=>whnf
     all_goals
      refine⟨(),trivial,?_⟩
      (exact leA)
   have h1:=(rgOf (4-k) (lastRun ps r)).h1
   have h0:=(rgOf (4-k) (lastRun ps r)).h0
   have hlen:0<(((lastRun ps r).map (zeroTo k)).map encX).length:=by rw[aA,aA];exact dC.2 hl0
   have hjb:joinB (4-k) (lastRun ps r) p=(decide ((x0.get (4-k)).lo<=(rgOf (4-k) (lastRun ps r)).hi)||(decide ((x0.get (4-k)).lo=(rgOf (4-k) (lastRun ps r)).hi+1)&&decide (p.map (zeroTo k)=(lastRun ps r).map (zeroTo k)))):=by
    rw[joinB,hal,hx0r]
    have:(lastRun ps r).isEmpty=false:=by cases hq:lastRun ps r with
     |nil=>exact absurd hq hl0
     |cons=>rfl
    rw[this,decide_eq_decide.2 (eq_comm (a:=(lastRun ps r).map (zeroTo k)))]
    rfl
   have hj:=hjoin _ hjb
   have hx0s:=hx0r.symm
   clear hjoin hjb hstep hx0r hp2
   (repeat' ((conv=>whnf);first|(with_reducible first|refine hsl ?_|refine hcan ?_|refine hsl2 ?_|refine gV 0 p.length rfl rfl zo (by rw[aA,aC];omega) ?_|refine gV p.length (p++more).length rfl (by rw[aA]) (by rw[aC];omega) (by rw[aA];exact aJ _) ?_|refine cxEqB _ _ (by rw[aA];omega) (by rw[aA];omega) ?_)|refine zG ?_|apply zA|intro h|exact zT));all_goals conv=>whnf
   all_goals first
    |exact fin_f hK (by rw[hj];simp[*])
    |(refine⟨(r+1,(x0.get (4-k)).lo,(x0.get (4-k)).hi,encXs (p.map (zeroTo k))),⟨hrl,?_,.inr ⟨?_,?_,?_⟩⟩,?_,?_⟩
      ·simp only;rw[hlast1,hj];simp[*]<;>(intros;omega)
      ·simp only;rw[hlast1];exact hp1
      ·simp only;rw[hlast1,hx0s]
      ·simp only;rw[hlast1];omega
      ·simp only;omega
      ·simp only;rw[hmore];(exact leA))
 ·have e:ps.drop r=[]:=bU hrl
  rw[e,chkR]at hchk
  rw[e,List.flatten_nil]
  rcases hlast with⟨hl0,rfl⟩|⟨hl0,heq,hll⟩
  ·(repeat' ((conv=>whnf);first|refine zG ?_|apply zA|intro h|exact zT));all_goals conv=>whnf
   exact fin_t hK hchk
  ·simp only[Prod.mk.injEq]at heq
   obtain⟨rfl,rfl,rfl⟩:=heq
   (repeat' ((conv=>whnf);first|refine zG ?_|apply zA|intro h|exact zT));all_goals conv=>whnf
   exact fin_t hK hchk
theorem cxDiv:∀(k:Nat),k<=5->∀(l:List Bx) {K:KT},l.length<1000000000->(k=0->l≠[])->K (.sb (canB k l)) []->AC 150 [.v (.int .i64 ((5-k:Nat):Int)),encXs l] [] K
 |0,_,l,K,hl,hne,hK=>by
  refine gO (ofxDiv rfl rfl ?_)
  (repeat' ((conv=>whnf);first|refine zG ?_|apply zA|intro h|exact zT));all_goals conv=>whnf
  refine fin_s hK ?_
  have:=dC.2 (hne rfl)
  rw[canB,aA,bD,beq_iff_eq,aI]
  omega
 |k+1,hk,l,K,hl,hne,hK=>by
  rw[show 5-(k+1)=4-k by omega]
  refine div_step k zo (fun l K h1 h2 h3=>?_) l hl hK
  rw[show((4-k:Nat):Int)+1=((5-k:Nat):Int) by omega]
  exact cxDiv k zo l h1 (fun _=>h2) h3
theorem cxVald(l:List Bx)(hl:l.length<1000000000){K:KT}(hK:K (.sb (setB l)) []):AC 72 [encXs l] [] K:=by
 have hc:∀{K:KT},K (.sb (canB 5 l)) []->AC 150 [.v (.int .i64 0),encXs l] [] K:=fun h=>cxDiv 5 (aJ _) l hl zo h
 refine gO (ofxVald rfl rfl ?_)
 unfold setB at hK
 (repeat' ((conv=>whnf);first|(with_reducible first|refine cxVal l zo ?_|refine hc ?_)|refine zG ?_|apply zA|intro h|exact zT));all_goals conv=>whnf
 all_goals
  simp only[aA]at*
  first
   |exact fin_s hK (by rw[decide_eq_true zo,decide_eq_true zo];rfl)
   |exact fin_f hK (by rw[decide_eq_true zo,decide_eq_false zo];rfl)
   |exact fin_f hK (by rw[decide_eq_false zo];rfl)
theorem makeGo_vld:∀(l s:List Bx),makeGo s (vldB l)=makeGo s l
 |[],s=>rfl
 |b::l,s=>by
  by_cases h:b.ok
  ·have e:vldB (b::l)=b::vldB l:=by simp[vldB,h]
   rw[e,makeGo,makeGo,aH h,aH h]
   split
   ·rfl
   ·exact makeGo_vld l _
  ·have e:vldB (b::l)=vldB l:=by simp[vldB,h]
   rw[e,makeGo,aE h]
   exact makeGo_vld l s
theorem cxMake(l:List Bx)(hl:l.length<1000000000){K:KT}(hK:K (.tup [encXs (makeP l).1,.v (.int .i64 (makeP l).2)]) []):AC 111 [encXs l] [] K:=by
 have hvl:=vldB_len l
 refine gP (ofxMake rfl rfl ?_)
 (repeat' ((conv=>whnf);first|(with_reducible refine cxVal l hl ?_)|refine zG ?_|apply zA|intro h|exact zT));all_goals conv=>whnf
 have hv0:∀x,x∈vldB l->x.ok:=fun x hx=>by simpa using(bX.1 hx).2
 have hm0:makeP l=makeGo [] (vldB l):=(makeGo_vld l []).symm
 generalize vldB l=v at*
 refine gL (Nat×List Bx) (fun g=>⟨0,[],[(4,encXs g.2),(10,encXs v),(11,.v (.int .i64 ((v.map encX).length:Nat))),(12,.v (.int .i64 g.1))]⟩) (fun g=>g.1<=v.length/\PSet g.2/\okL g.2/\makeP l=makeGo g.2 (v.drop g.1)) (fun g=>v.length-g.1) (0,[]) ⟨aL _,pset_nil,okL_nil,by rw[cA];exact hm0⟩ ?_ ?_
 ·(exact leA)
 rintro⟨i,s⟩ ⟨hi,hs,hos,hm⟩
 simp only at hi hs hos hm⊢
 rcases aD i v.length with hil|hil
 ·obtain⟨x,hx⟩:=gex hil
  have hd:v.drop i=x::v.drop (i+1):=by
   rw[aB hil]at hx
   rw[<-bE hx,<-aZ hil]
  have hxo:=hv0 x (aG hx)
  rw[hd,makeGo,aH hxo]at hm
  have hadd:∀{K:KT},K (.tup [encXs (limP (addO s x)),.v (.int .i64 (limE (addO s x)))]) []->AC 197 [encXs s,.lst [encX x],.fn (.func 198) [] []] [] K:=fun h=>
   cxComb _ orB opf_either s [x] hos (fun y hy=>by rw[aR.1 hy];exact ok_get hxo) (by have:=hs.len;omega) zx h
  (repeat' ((conv=>whnf);first|(with_reducible first|refine hJ hil ?_|refine gZ hx ?_|refine hadd ?_)|refine zG ?_|apply zA|intro h|exact zT));all_goals conv=>whnf
  ·have hlen:¬4096<(addO s x).length:=fun hh=>limE_ne.2 hh h
   rw[aE hlen]at hm
   refine⟨(i+1,addO s x),⟨hil,cano_pset (by unfold addO at hlen;omega),okL_cano _ _ _,hm⟩,by simp only;omega,?_⟩
   rw[show limP (addO s x)=addO s x from by unfold limP;rw[aE hlen]]
   simp only
   rw[aO,aN]
   (exact leA)
  ·have hlen:4096<(addO s x).length:=limE_ne.1 h
   rw[aH hlen]at hm
   rw[hm]at hK
   have h3:limE (addO s x)=3:=by unfold limE;rw[aH hlen]
   rw[h3]
   exact⟨_,gQ gR gM,hK⟩
 ·rw[bU hil,makeGo]at hm
  rw[hm]at hK
  (repeat' ((conv=>whnf);first|refine zG ?_|apply zA|intro h|exact zT));all_goals conv=>whnf
  exact⟨_,gM,hK⟩
theorem cxSet(l:List Bx)(hl:l.length<1000000000){K:KT}(hK:K (.tup [encXs (givP l).1,.v (.int .i64 (givP l).2)]) []):AC 240 [encXs l] [] K:=by
 refine gP (ofxSet rfl rfl ?_)
 unfold givP at hK
 (repeat' ((conv=>whnf);first|(with_reducible first|refine cxVald l hl ?_|refine cxMake l hl ?_)|refine zG ?_|apply zA|intro h|exact zT));all_goals conv=>whnf
 all_goals simp_all
 all_goals exact⟨_,gM,hK⟩
theorem cxOf(fn:FuncId)(op:Bool->Bool->Bool)(hop:Opf fn op)(a b:List Bx)(ha:a.length<1000000000)(hb:b.length<1000000000){K:KT}(hK:K (.tup [encXs (combP op a b).1,.v (.int .i64 (combP op a b).2)]) []):
  AC 153 [encXs a,encXs b,.fn (.func fn) [] []] [] K:=by
 refine gP (ofxOf rfl rfl ?_)
 unfold combP at hK
 have hr:∀{K:KT},K (.tup [encXs (limP (cano op 5 (givP a).1 (givP b).1)),.v (.int .i64 (limE (cano op 5 (givP a).1 (givP b).1)))]) []->AC 197 [encXs (givP a).1,encXs (givP b).1,.fn (.func fn) [] []] [] K:=fun h=>cxComb fn op hop _ _ (okL_giv a) (okL_giv b) (by have:=(givP_pset a).len;omega) (by have:=(givP_pset b).len;omega) h
 (repeat' ((conv=>whnf);first|(with_reducible first|refine cxSet a ha ?_|refine cxSet b hb ?_|refine hr ?_)|refine zG ?_|apply zA|intro h|exact zT));all_goals conv=>whnf
 all_goals simp_all
 all_goals first|exact⟨_,gM,hK⟩|exact⟨_,gQ gR gM,hK⟩
theorem cxInt(a b:List Bx)(ha:a.length<1000000000)(hb:b.length<1000000000){K:KT}(hK:K (.tup [encXs (combP anB a b).1,.v (.int .i64 (combP anB a b).2)]) []):AC 76 [encXs a,encXs b] [] K:=by
 refine ofxInt rfl rfl ?_
 (repeat' ((conv=>whnf);first|(with_reducible refine cxOf _ anB opf_both a b ha hb ?_)|refine zG ?_|apply zA|intro h|exact zT));all_goals conv=>whnf
 exact hK
theorem cxUn(a b:List Bx)(ha:a.length<1000000000)(hb:b.length<1000000000){K:KT}(hK:K (.tup [encXs (combP orB a b).1,.v (.int .i64 (combP orB a b).2)]) []):AC 114 [encXs a,encXs b] [] K:=by
 refine ofxUn rfl rfl ?_
 (repeat' ((conv=>whnf);first|(with_reducible refine cxOf _ orB opf_either a b ha hb ?_)|refine zG ?_|apply zA|intro h|exact zT));all_goals conv=>whnf
 exact hK
theorem cxSub(a b:List Bx)(ha:a.length<1000000000)(hb:b.length<1000000000){K:KT}(hK:K (.tup [encXs (combP woB a b).1,.v (.int .i64 (combP woB a b).2)]) []):AC 113 [encXs a,encXs b] [] K:=by
 refine ofxSub rfl rfl ?_
 (repeat' ((conv=>whnf);first|(with_reducible refine cxOf _ woB opf_without a b ha hb ?_)|refine zG ?_|apply zA|intro h|exact zT));all_goals conv=>whnf
 exact hK
theorem wrU8{e r:Int}{K:Int->Prop}(h0:e=r)(h1:0<=r)(h2:r<=255)(hk:K r):Wr .u8 e K:=by
 subst h0
 refine Wr.intro ?_ hk
 simp only[IntKind.wrap,IntKind.signed,IntKind.bits];simp;omega
theorem wrU16{e r:Int}{K:Int->Prop}(h0:e=r)(h1:0<=r)(h2:r<=65535)(hk:K r):Wr .u16 e K:=by
 subst h0
 refine Wr.intro ?_ hk
 simp only[IntKind.wrap,IntKind.signed,IntKind.bits];simp;omega
noncomputable abbrev encH(p0 p1 p2 p3 p4:Int):AV:=.agg [.v (.int .u32 p0),.v (.int .u32 p1),.v (.int .u8 p2),.v (.int .u16 p3),.v (.int .u16 p4)]
structure HdOk (p0 p1 p2 p3 p4:Int):Prop where
 l0:0<=p0
 l1:0<=p1
 l2:0<=p2
 l3:0<=p3
 l4:0<=p4
 h0:p0<=4294967295
 h1:p1<=4294967295
 h2:p2<=255
 h3:p3<=65535
 h4:p4<=65535
theorem cxVals(p0 p1 p2 p3 p4:Int)(h:HdOk p0 p1 p2 p3 p4){K:KT}(hK:K (.agg [.v (.int .u32 p0),.v (.int .u32 p1),.v (.int .u32 p2),.v (.int .u32 p3),.v (.int .u32 p4)]) []):AC 226 [encH p0 p1 p2 p3 p4] [] K:=by
 obtain⟨l0,l1,l2,l3,l4,h0,h1,h2,h3,h4⟩:=h
 refine ofxVals rfl rfl ?_
 (repeat' ((conv=>whnf);first|refine zG ?_|apply zA|intro h|exact zT));all_goals conv=>whnf
 exact hK
theorem cxHdr(p0 p1 p2 p3 p4:Int)(h:HdOk p0 p1 p2 p3 p4){K:KT}(hK:K (encH p0 p1 p2 p3 p4) []):AC 290 [.agg [.v (.int .u32 p0),.v (.int .u32 p1),.v (.int .u32 p2),.v (.int .u32 p3),.v (.int .u32 p4)]] [] K:=by
 obtain⟨l0,l1,l2,l3,l4,h0,h1,h2,h3,h4⟩:=h
 refine ofxHdr rfl rfl ?_
 (repeat' ((conv=>whnf);first|(refine in_c zd ?_)|(with_reducible first|refine wrU8 rfl zo zo ?_|refine wrU16 rfl zo zo ?_)|refine zG ?_|apply zA|intro h|exact zT));all_goals conv=>whnf
 exact hK
theorem cxWith(f:Nat)(hf:f<=4)(p0 p1 p2 p3 p4 v:Int)(h:HdOk p0 p1 p2 p3 p4)(hv0:0<=v)(hv:v<=topF f){K:KT}
  (hK:K (encH (if f=0 then v else p0) (if f=1 then v else p1) (if f=2 then v else p2) (if f=3 then v else p3) (if f=4 then v else p4)) []):AC 239 [encH p0 p1 p2 p3 p4,.v (.int .i64 f),.v (.int .u32 v)] [] K:=by
 refine ofxWith rfl rfl ?_
 have h':HdOk (if f=0 then v else p0) (if f=1 then v else p1) (if f=2 then v else p2) (if f=3 then v else p3) (if f=4 then v else p4):=by
  obtain⟨l0,l1,l2,l3,l4,h0,h1,h2,h3,h4⟩:=h
  obtain rfl|rfl|rfl|rfl|rfl:f=0\/f=1\/f=2\/f=3\/f=4:=by omega
  all_goals(simp only[topF]at hv;constructor<;>simp<;>omega)
 obtain rfl|rfl|rfl|rfl|rfl:f=0\/f=1\/f=2\/f=3\/f=4:=by omega
 all_goals
  simp only[topF]at hv
  simp only[if_true,if_false,Nat.reduceEqDiff,reduceIte,Nat.zero_ne_one,Nat.one_ne_zero]at h' hK
  (repeat' ((conv=>whnf);first|(with_reducible first|refine cxVals _ _ _ _ _ h ?_|refine cxHdr _ _ _ _ _ h' ?_)|(refine in_c zd ?_)|refine zG ?_|apply zA|intro h|exact zT));all_goals conv=>whnf
  exact hK
theorem cxFst(fn:FuncId)(hfn:fn=152)(op:Bool->Bool->Bool)(hop:Opf fn op)(a b:List Bx)(ha:a.length<1000000000)(hb:b.length<1000000000){K:KT}
  (hK:∀d0 d1 d2 d3 d4,HdOk d0 d1 d2 d3 d4->(cano op 5 (vldB a) (vldB b)≠[]->∀f,f<=4->five d0 d1 d2 d3 d4 f=lows (cano op 5 (vldB a) (vldB b)) f)->K (.tup [encH d0 d1 d2 d3 d4,.sb (!(cano op 5 (vldB a) (vldB b)).isEmpty)]) []):
  AC 151 [encXs a,encXs b,.fn (.func fn) [] []] [] K:=by
 have hva:=vldB_len a
 have hvb:=vldB_len b
 have hl:∀(c0 c1 c2 c3 c4:Int) {K:KT},LeastK 5 (cano op 5 (vldB a) (vldB b)) c0 c1 c2 c3 c4 K->AC 238 [.v (.int .i64 0),encXs (vldB a),encXs (vldB b),.fn (.func fn) [] [],.op 0 0] [boxV c0 c1 c2 c3 c4] K:=fun c0 c1 c2 c3 c4 {K} h=>
  cxLst fn hfn op hop 5 (aJ _) (vldB a) (vldB b) c0 c1 c2 c3 c4 (okL_vld a) (okL_vld b) zo zo h
 have hok:=okL_cano op (vldB a) (vldB b)
 subst hfn
 generalize cano op 5 (vldB a) (vldB b)=R at*
 refine gP (ofxFst rfl rfl ?_)
 (repeat' ((conv=>whnf);first|(with_reducible first|refine cxVal a ha ?_|refine cxVal b hb ?_)|(refine hl _ _ _ _ _ ?_)|refine zG ?_|apply zA|intro h|exact zT));all_goals conv=>whnf
 all_goals rename_i d0 d1 d2 d3 d4 hd1 hd2
 (repeat' ((conv=>whnf);first|refine zG ?_|apply zA|intro h|exact zT));all_goals conv=>whnf
 ·have hre:R=[]:=eV.1 h
  have:=hK 0 0 0 0 0 (by constructor<;>decide) fun h=>absurd hre h
  rw[hre]at this
  exact⟨_,gQ gM Weak.bool,this⟩
 ·have hre:R≠[]:=fun e=>by rw[e]at h;cases h
  have hd:=fun f hf=>hd2 hre f hf zo
  obtain⟨x,l,rfl⟩:∃x l,R=x::l:=by
   cases hR:R with
   |nil=>exact absurd hR hre
   |cons x l=>exact⟨x,l,rfl⟩
  have hx:=hok x zx
  have k0:=hd 0 zo;have k1:=hd 1 zo;have k2:=hd 2 zo;have k3:=hd 3 zo;have k4:=hd 4 zo
  have x0:=hx 0 zo;have x1:=hx 1 zo;have x2:=hx 2 zo;have x3:=hx 3 zo;have x4:=hx 4 zo
  have y0:=(x.get 0).l0;have y1:=(x.get 1).l0;have y2:=(x.get 2).l0;have y3:=(x.get 3).l0;have y4:=(x.get 4).l0
  simp only[five,lows,topF]at k0 k1 k2 k3 k4 x0 x1 x2 x3 x4
  have hd0:HdOk d0 d1 d2 d3 d4:=by constructor<;>omega
  have hz:HdOk 0 0 0 0 0:=by constructor<;>decide
  have w0:∀{K:KT},K (encH d0 0 0 0 0) []->AC 239 [encH 0 0 0 0 0,.v (.int .i64 0),.v (.int .u32 d0)] [] K:=fun h=>cxWith 0 zo 0 0 0 0 0 d0 hz zo (by simp only[topF];omega) h
  have w1:∀{K:KT},K (encH d0 d1 0 0 0) []->AC 239 [encH d0 0 0 0 0,.v (.int .i64 (0+1)),.v (.int .u32 d1)] [] K:=fun h=>cxWith 1 zo d0 0 0 0 0 d1 (by constructor<;>omega) zo (by simp only[topF];omega) h
  have w2:∀{K:KT},K (encH d0 d1 d2 0 0) []->AC 239 [encH d0 d1 0 0 0,.v (.int .i64 (0+1+1)),.v (.int .u32 d2)] [] K:=fun h=>cxWith 2 zo d0 d1 0 0 0 d2 (by constructor<;>omega) zo (by simp only[topF];omega) h
  have w3:∀{K:KT},K (encH d0 d1 d2 d3 0) []->AC 239 [encH d0 d1 d2 0 0,.v (.int .i64 (0+1+1+1)),.v (.int .u32 d3)] [] K:=fun h=>cxWith 3 zo d0 d1 d2 0 0 d3 (by constructor<;>omega) zo (by simp only[topF];omega) h
  have w4:∀{K:KT},K (encH d0 d1 d2 d3 d4) []->AC 239 [encH d0 d1 d2 d3 0,.v (.int .i64 (0+1+1+1+1)),.v (.int .u32 d4)] [] K:=fun h=>cxWith 4 zo d0 d1 d2 d3 0 d4 (by constructor<;>omega) zo (by simp only[topF];omega) h
  refine Lp.times 6 ?_
  (repeat' ((conv=>whnf);first|(refine in_c zd ?_)|(with_reducible first|refine w0 ?_|refine w1 ?_|refine w2 ?_|refine w3 ?_|refine w4 ?_)|refine zG ?_|apply zA|intro h|exact zT));all_goals conv=>whnf
  exact⟨_,gQ gM Weak.bool,hK d0 d1 d2 d3 d4 hd0 fun _ f hf=>hd f hf⟩
theorem cxSubs(a b:List Bx)(ha:a.length<1000000000)(hb:b.length<1000000000){K:KT}(hK:K (.sb (cano woB 5 (vldB a) (vldB b)).isEmpty) []):AC 73 [encXs a,encXs b] [] K:=by
 refine gO (ofxSubs rfl rfl ?_)
 (repeat' ((conv=>whnf);first|(refine cxFst _ rfl woB opf_without a b ha hb (fun d0 d1 d2 d3 d4 hd hl=>?_))|refine zG ?_|apply zA|intro h|exact zT));all_goals conv=>whnf
 refine .inr ⟨_,rfl,?_⟩
 rw[Bool.not_not]
 exact hK
theorem cxInitC(xs:List AV)(n:Nat)(hn:xs.length=n)(hn2:n<1000)(p0 p1 s0 s1 d0 d1:Int){K:KT}
  (hK:K (.tup []) [.box [.os 2 10 0 (n+1)],.box [],.arr 10 (xs++[.agg [.v (.int .u32 0),.v (.int .u32 4294967295),.v (.int .u32 0),.v (.int .u32 4294967295),.v (.int .u32 p0),.v (.int .u32 p1),.v (.int .u32 s0),.v (.int .u32 s1),.v (.int .u32 d0),.v (.int .u32 d1)]])]):
  AC 141 [.v (.int .u32 p0),.v (.int .u32 p1),.v (.int .u32 s0),.v (.int .u32 s1),.v (.int .u32 d0),.v (.int .u32 d1),.op 0 0] [.box [.os 1 10 0 n],.arr 10 xs] K:=by
 refine ofxInitC rfl rfl ?_
 (repeat' ((conv=>whnf);first|(with_reducible refine cxFull ?_)|(refine in_c zd ?_)|(with_reducible refine sl_full hn ?_)|refine zG ?_|apply zA|intro h|exact zT));all_goals conv=>whnf
 exact hK
theorem cxInit{K:KT}(hK:K (encXs initS) []):AC 69 [] [] K:=by
 have hTop:∀{K:KT},K (.v (.int .u32 65535)) []->AC 143 [.v (.int .i64 4)] [] K:=fun h=>cxTop 4 h
 refine ofxInit rfl rfl ?_
 (repeat' ((conv=>whnf);first|(with_reducible refine hTop ?_)|(refine cxInitC _ _ (by rfl) zd _ _ _ _ _ _ ?_)|refine zG ?_|apply zA|intro h|exact zT));all_goals conv=>whnf
 exact hK
theorem cyWho(t:Tp)(a b:Nat)(ea eb:Ed)(ha:t.edges[a]? =some ea)(hb:t.edges[b]? =some eb){K:KT}(hK:K (encX (whoB ea.pf eb.pf)) []):AC 91 [encT t,.v (.int .i64 a),.v (.int .i64 b)] [] K:=by
 have hal:=(aM.1 ha).1
 have hbl:=(aM.1 hb).1
 refine ofyWho rfl rfl ?_
 (repeat' ((conv=>whnf);first|(with_reducible first|refine cxFull ?_|refine hJ hal ?_|refine hJ hbl ?_|refine gZ ha ?_|refine gZ hb ?_|refine cpOf _ ?_)|(refine in_c zd ?_)|refine zG ?_|apply zA|intro h|exact zT));all_goals conv=>whnf
 exact hK
theorem cyPairs(t:Tp)(hl:t.edges.length<10000){K:KT}(hK:K (encXs (pairsB t.edges)) []):AC 74 [encT t] [] K:=by
 refine ofyPairs rfl rfl ?_
 (repeat' ((conv=>whnf);first|refine zG ?_|apply zA|intro h|exact zT));all_goals conv=>whnf
 refine gL Nat (fun a=>⟨2,[(1,.arr 10 ((pairsTo t.edges a).map encX)),(0,boxT t)],[(1,.op 0 0),(3,.os 1 10 0 (pairsTo t.edges a).length),(8,.v (.int .i64 ((t.edges.map encE).length:Nat))),(9,.v (.int .i64 a))]⟩) (fun a=>a<=t.edges.length) (fun a=>t.edges.length-a) 0 (aL _) ?_ ?_
 ·(exact leA)
 intro a ha
 have hl1:=pairsTo_len t.edges a
 have hl2:a*t.edges.length<=10000*10000:=dR zo zo
 rcases aD a t.edges.length with hal|hal
 ·obtain⟨ea,hea⟩:=gex hal
  (repeat' ((conv=>whnf);first|refine zG ?_|apply zA|intro h|exact zT));all_goals conv=>whnf
  refine gL Nat (fun b=>⟨2,[(1,.arr 10 ((pairsTo t.edges a++pairsAt t.edges a ea b).map encX)),(0,boxT t)],[(1,.op 0 0),(3,.os 1 10 0 (pairsTo t.edges a++pairsAt t.edges a ea b).length),(4,.v (.int .i64 a)),(8,.v (.int .i64 ((t.edges.map encE).length:Nat))),(9,.v (.int .i64 a)),(14,.v (.int .i64 ((t.edges.map encE).length:Nat))),(15,.v (.int .i64 b))]⟩) (fun b=>b<=t.edges.length) (fun b=>t.edges.length-b) 0 (aL _) ?_ ?_
  ·rw[show pairsAt t.edges a ea 0=[]from rfl,bJ]
   (exact leA)
  intro b hb
  have hl3:=pairsAt_len t.edges a ea b
  rcases aD b t.edges.length with hbl|hbl
  ·obtain⟨eb,heb⟩:=gex hbl
   have hs:=pairsAt_succ (a:=a) (ea:=ea) heb
   have hlen:(pairsTo t.edges a++pairsAt t.edges a ea b).length<=100010000:=by rw[aC];omega
   have hap:pairsTo t.edges a++pairsAt t.edges a ea (b+1)=(pairsTo t.edges a++pairsAt t.edges a ea b)++(if a=b then []else [whoB ea.pf eb.pf]):=by rw[hs,dL]
   generalize hA:pairsTo t.edges a++pairsAt t.edges a ea b=A at*
   generalize hB:pairsTo t.edges a++pairsAt t.edges a ea (b+1)=B at*
   (repeat' ((conv=>whnf);first|(with_reducible refine cyWho t a b ea eb hea heb ?_)|refine zG ?_|apply zA|intro h|exact zT));all_goals conv=>whnf
   all_goals
    refine⟨b+1,hbl,by omega,?_⟩
    first
     |(rw[aE zo]at hap
       rw[hB,hap,aQ,aC,aO b,aN]
       (exact leA)
       done)
     |(rw[aH zo,bJ]at hap
       rw[hB,hap,aO b,aN]
       (exact leA)
       done)
  ·(repeat' ((conv=>whnf);first|refine zG ?_|apply zA|intro h|exact zT));all_goals conv=>whnf
   have hbe:b=t.edges.length:=by omega
   rw[hbe,<-pairsTo_succ hea]
   refine⟨a+1,hal,by omega,?_⟩
   rw[aO a,aN]
   (exact leA)
 ·(repeat' ((conv=>whnf);first|refine zG ?_|apply zA|intro h|exact zT));all_goals conv=>whnf
  have hae:a=t.edges.length:=by omega
  rw[hae]
  exact hK
end Go.Proofs.YtbdikofefjljoaaGreatDoor
