/- The reference's packet sets: Make, the operations. -/
import Derived.Test.YtbdikofefjljoaaGreatDoorProg
import Derived.Test.YtbdikofefjljoaaGreatDoorM11
set_option linter.unusedVariables false
set_option linter.unusedSimpArgs false
set_option maxRecDepth 100000
set_option maxHeartbeats 4000000
namespace Go.Proofs.YtbdikofefjljoaaGreatDoor
open Go Go.Vm
structure PSet (l:List Bx):Prop where
 len:l.length<=4096
 cn:Cn 5 l
theorem pset_nil:PSet []:=⟨aH _,Cn.nil 5⟩
theorem room1(op:Bool->Bool->Bool){s b:List Bx}(h:PSet s)(hb:b.length<=20):(cano op 5 s b).length<=900000000000:=by
 have h1:=bound1 op b.length 5 s b (aM _) h.cn (aM _)
 have h2:(2*b.length+3)^5<=43^5:=Nat.pow_le_pow_left zo 5
 have h3:(s.length+1)*(2*b.length+3)^5<=4097*43^5:=dQ (by have:=h.len;omega) h2
 have h4:4097*43^5<=900000000000:=by decide
 omega
theorem room2(op:Bool->Bool->Bool){s b:List Bx}(h:PSet s)(hb:PSet b):(cano op 5 s b).length<=900000000000:=by
 have h1:=bound2 op 5 s b (aM _) h.cn hb.cn
 have h3:6^5*((s.length+1)*(b.length+1))<=6^5*(4097*4097):=eK _ (dQ (by have:=h.len;omega) (by have:=hb.len;omega))
 have h4:6^5*(4097*4097)<=900000000000:=by decide
 omega
theorem vldB_all{l:List Bx}(h:(vldB l).length=l.length):∀x,x∈l->x.ok:=by
 have:=List.length_filter_eq_length_iff.1 h
 intro x hx
 simpa using this x hx
theorem ok_get{x:Bx}(h:x.ok):∀f,f<=4->(x.get f).lo<=(x.get f).hi/\(x.get f).hi<=topF f:=by
 obtain⟨h0,h1,h2,h3,h4⟩:=h
 intro f hf
 rcases f with _|_|_|_|_|f
 all_goals first|assumption|omega
theorem setB_same{l:List Bx}(h:setB l=true):cano orB 5 l []=l:=by
 unfold setB at h
 simp only[aI,aK]at h
 obtain⟨h1,h2,h3⟩:=h
 have hv:=vldB_all h2
 have:=(canB_iff 5 l (aM _) (fun x hx f hf _=>ok_get (hv x hx) f hf) zo).1 h3
 rw[this]
 exact(dY fun x _=>zeroTo_five x).trans (List.map_id _)
theorem setB_pset{l:List Bx}(h:setB l=true):PSet l:=by
 refine⟨?_,?_⟩
 ·unfold setB at h
  simp only[aI,aK]at h
  exact h.1
 ·rw[<-setB_same h]
  exact cano_cn orB 5 l [] (aM _)
theorem cano_pset{op:Bool->Bool->Bool}{a b:List Bx}(h:(cano op 5 a b).length<=4096):PSet (cano op 5 a b):=⟨h,cano_cn op 5 a b (aM _)⟩
theorem makeGo_pset:∀(l s:List Bx),PSet s->PSet (makeGo s l).1
 |[],s,h=>h
 |b::l,s,h=>by
  rw[makeGo]
  split
  ·split
   ·exact pset_nil
   ·exact makeGo_pset l _ (cano_pset (by unfold addO at*;omega))
  ·exact makeGo_pset l s h
theorem makeP_pset(l:List Bx):PSet (makeP l).1:=makeGo_pset l [] pset_nil
theorem limE_ne{l:List Bx}:limE l≠0↔4096<l.length:=by
 unfold limE
 split
 ·simp;omega
 ·simp;omega
theorem cr4Make(l:List Bx)(hl:l.length<1000000000){K:KT}(hK:K (.tup [encXs (makeP l).1,.v (.int .i64 (makeP l).2)]) []):ACall Tryz.prog 127 [encXs l] [] K:=by
 refine ACall.weak (ofr4Make rfl rfl ?_)
 (repeat' ((conv=>whnf);first|refine zG ?_|apply zA|(apply zI;intro h)|exact zT));(all_goals conv=>whnf)
 refine Lp.intro (Nat×List Bx) (fun g=>⟨0,[],[(0,encXs l),(4,encXs g.2),(5,.v (.int .i64 g.1))]⟩) (fun g=>g.1<=l.length/\PSet g.2/\makeP l=makeGo g.2 (l.drop g.1)) (fun g=>l.length-g.1) (0,[]) ⟨aH _,pset_nil,by rw[cD];rfl⟩ ?_ ?_
 ·(exact leA)
 rintro⟨i,s⟩ ⟨hi,hs,hm⟩
 simp only at hi hs hm⊢
 rcases aB i l.length with hil|hil
 ·obtain⟨x,hx⟩:=gex hil
  have hd:l.drop i=x::l.drop (i+1):=by
   rw[aD hil]at hx
   rw[<-bH hx,<-bE hil]
  rw[hd,makeGo]at hm
  have hsl:∀{K:List AV->Prop},K ([x].map encX)->Sl (l.map encX) i (i+1-i) K:=fun {K} h=>by
   refine sl_map zo ?_
   rw[fD,hd]
   exact h
  have hadd:∀{K:KT},K (encXs (addO s x)) []->ACall Tryz.prog 92 [encXs s,encXs [x],.v (.int .i64 0),.v (.int .i64 0)] [] K:=fun h=>cr4Rests 0 5 (aM _) s [x] (by have:=hs.len;simp only[aJ,aO];omega) (room1 _ hs zx) (by rw[opI_0];exact h)
  (repeat' ((conv=>whnf);first|(with_reducible first|refine in_map hil ?_|refine ix_map hx ?_|refine cr3Val x ?_|refine Sb.intro i (i+1) rfl zo zo (by rw[aA];omega) ?_|refine hsl ?_|refine hadd ?_|refine cr4Lim (addO s x) ?_)|refine zG ?_|apply zA|(apply zI;intro h)|exact zT));(all_goals conv=>whnf)
  ·rename_i hb
   have he:=h
   have hlen:¬4096<(addO s x).length:=fun h=>limE_ne.2 h he
   rw[aG hb,aE hlen]at hm
   refine⟨(i+1,addO s x),⟨hil,cano_pset (by unfold addO at hlen;omega),hm⟩,by omega,?_⟩
   rw[show limP (addO s x)=addO s x from by unfold limP;rw[aE hlen]]
   dsimp only
   rw[aN,aL]
   (exact leA)
  ·rename_i hb
   have hne:=h
   rw[aG hb,aG (limE_ne.1 hne)]at hm
   rw[hm]at hK
   have h3:limE (addO s x)=3:=by
    unfold limE at hne⊢
    split<;>simp_all
   rw[h3]
   exact⟨_,Weak.tup2 Weak.nils Weak.refl,hK⟩
  ·have hb:=h
   rw[aE hb]at hm
   refine⟨(i+1,s),⟨hil,hs,hm⟩,by dsimp only;omega,?_⟩
   dsimp only
   rw[aN,aL]
   (exact leA)
 ·rw[cH hil,makeGo]at hm
  rw[hm]at hK
  (repeat' ((conv=>whnf);first|refine zG ?_|apply zA|(apply zI;intro h)|exact zT));(all_goals conv=>whnf)
  exact⟨_,Weak.refl,hK⟩
def givP(l:List Bx):List Bx×Int:=if setB l then(l,0)else makeP l
theorem givP_pset(l:List Bx):PSet (givP l).1:=by
 unfold givP
 split
 ·exact setB_pset zp
 ·exact makeP_pset l
theorem cr4Giv(l:List Bx)(hl:l.length<1000000000){K:KT}(hK:K (.tup [encXs (givP l).1,.v (.int .i64 (givP l).2)]) []):ACall Tryz.prog 221 [encXs l] [] K:=by
 refine ACall.weak (ofr4Giv rfl rfl ?_)
 unfold givP at hK
 (repeat' ((conv=>whnf);first|(with_reducible first|refine cr4Vald l hl ?_|refine cr4Make l hl ?_)|refine zG ?_|apply zA|(apply zI;intro h)|exact zT));(all_goals conv=>whnf)
 all_goals simp_all
 all_goals exact⟨_,Weak.refl,hK⟩
def combP(op:Bool->Bool->Bool)(a b:List Bx):List Bx×Int:=
 if(givP a).2≠0 then([],(givP a).2)else if(givP b).2≠0 then([],(givP b).2)else(limP (cano op 5 (givP a).1 (givP b).1),limE (cano op 5 (givP a).1 (givP b).1))
theorem cr4Comb(c:Int)(a b:List Bx)(ha:a.length<1000000000)(hb:b.length<1000000000){K:KT}(hK:K (.tup [encXs (combP (opI c) a b).1,.v (.int .i64 (combP (opI c) a b).2)]) []):ACall Tryz.prog 130 [encXs a,encXs b,.v (.int .i64 c)] [] K:=by
 refine ACall.weak (ofr4Comb rfl rfl ?_)
 unfold combP at hK
 have hr:∀{K:KT},K (encXs (cano (opI c) 5 (givP a).1 (givP b).1)) []->ACall Tryz.prog 92 [encXs (givP a).1,encXs (givP b).1,.v (.int .i64 c),.v (.int .i64 0)] [] K:=fun h=>cr4Rests c 5 (aM _) _ _ (by have:=(givP_pset a).len;have:=(givP_pset b).len;omega) (room2 _ (givP_pset a) (givP_pset b)) h
 (repeat' ((conv=>whnf);first|(with_reducible first|refine cr4Giv a ha ?_|refine cr4Giv b hb ?_|refine hr ?_|refine cr4Lim _ ?_)|refine zG ?_|apply zA|(apply zI;intro h)|exact zT));(all_goals conv=>whnf)
 all_goals simp_all
 all_goals first|exact⟨_,Weak.refl,hK⟩|exact⟨_,Weak.tup2 Weak.nils Weak.refl,hK⟩
theorem cr4Canon(l:List Bx)(hl:l.length<50000)(hr:(cano orB 5 (vldB l) []).length<=900000000000){K:KT}(hK:K (encXs (cano orB 5 (vldB l) [])) []):ACall Tryz.prog 220 [encXs l] [] K:=by
 refine ACall.weak (ofr4Canon rfl rfl ?_)
 have hq:∀{K:KT},K (encXs (cano orB 5 (vldB l) [])) []->ACall Tryz.prog 92 [encXs (vldB l),.lst [],.v (.int .i64 0),.v (.int .i64 0)] [] K:=fun h=>cr4Rests 0 5 (aM _) _ [] (by have:=vldB_len l;simp only[aO];omega) (by rw[opI_0];exact hr) (by rw[opI_0];exact h)
 (repeat' ((conv=>whnf);first|(with_reducible first|refine cr4Val l zo ?_|refine hq ?_)|refine zG ?_|apply zA|(apply zI;intro h)|exact zT));(all_goals conv=>whnf)
 exact⟨_,Weak.refl,hK⟩
def endsB(f:Nat)(l:List Bx):List Int:=l.flatMap fun x=>[(x.get f).lo,(x.get f).hi+1]
theorem endsB_mem{f:Nat}{l:List Bx}{z:Int}:z∈endsB f l↔∃x,x∈l/\(z=(x.get f).lo\/z=(x.get f).hi+1):=by
 simp[endsB]
theorem sorted_lt_last{st:List Int}{z:Int}(h:(st++[z]).Pairwise (· < ·)):∀x,x∈st->x<z:=fun x hx=>(dE.1 h).2.2 x hx z zx
theorem cuts_of{f:Nat}{a b:List Bx}(hab:∀x,x∈a\/x∈b->(x.get f).lo<=(x.get f).hi/\(x.get f).hi<=topF f){st':List Int}(hs:st'.Pairwise (· < ·))(hm:∀z,z∈st'↔z=0\/z=topF f+1\/z∈endsB f a\/z∈endsB f b):
  ∃st,st'=st++[topF f+1]/\Cuts (topF f) (rngs f a b) st:=by
 have ht:=topF_pos f
 have hends:∀z,z∈endsB f a\/z∈endsB f b->0<=z/\z<=topF f+1:=by
  intro z hz
  have:∃x,(x∈a\/x∈b)/\(z=(x.get f).lo\/z=(x.get f).hi+1):=by
   rcases hz with hz|hz
   ·obtain⟨x,h1,h2⟩:=endsB_mem.1 hz;exact⟨x,.inl h1,h2⟩
   ·obtain⟨x,h1,h2⟩:=endsB_mem.1 hz;exact⟨x,.inr h1,h2⟩
  obtain⟨x,h1,h2⟩:=this
  have:=hab x h1
  have:=(x.get f).l0
  omega
 have hb:∀z,z∈st'->0<=z/\z<=topF f+1:=by
  intro z hz
  rcases(hm z).1 hz with h|h|h
  ·omega
  ·omega
  ·exact hends z h
 have htop:topF f+1∈st':=(hm _).2 (.inr (.inl rfl))
 have hzero:(0:Int)∈st':=(hm _).2 (.inl rfl)
 rcases cK st' with hn|⟨st,z,hc⟩
 ·rw[hn]at htop;cases htop
 rw[cL]at hc
 subst hc
 have hlt:=sorted_lt_last hs
 have hz:z=topF f+1:=by
  rcases aS.1 htop with h|h
  ·have:=hlt _ h
   have:=hb z zx
   omega
  ·simp at h;exact h.symm
 subst hz
 have hin:∀z,z∈st++[topF f+1]->z<=topF f->z∈st:=by
  intro z hz hle
  rcases aS.1 hz with h|h
  ·exact h
  ·simp at h;omega
 refine⟨st,rfl,?_,?_,?_,?_⟩
 ·exact(dE.1 hs).1
 ·intro x hx
  have:=hlt x hx
  have:=hb x (aS.2 (.inl hx))
  omega
 ·have h0:=hin 0 hzero ht.1
  cases st with
  |nil=>cases h0
  |cons y r=>
   refine⟨r,?_⟩
   have hp:=(dE.1 hs).1
   rcases aW.1 h0 with h|h
   ·rw[h]
   ·have:=(bQ.1 hp).1 0 h
    have:=hb y zx
    omega
 ·intro r hr hle
  have:∃x,(x∈a\/x∈b)/\r=x.get f:=by
   rw[rngs]at hr
   rcases aS.1 hr with h|h
   ·obtain⟨x,h1,rfl⟩:=bU.1 h;exact⟨x,.inl h1,rfl⟩
   ·obtain⟨x,h1,rfl⟩:=bU.1 h;exact⟨x,.inr h1,rfl⟩
  obtain⟨x,hx,rfl⟩:=this
  have e1:(x.get f).lo∈st++[topF f+1]:=(hm _).2 (.inr (.inr (hx.imp (fun h=>endsB_mem.2 ⟨x,h,.inl rfl⟩) (fun h=>endsB_mem.2 ⟨x,h,.inl rfl⟩))))
  have e2:(x.get f).hi+1∈st++[topF f+1]:=(hm _).2 (.inr (.inr (hx.imp (fun h=>endsB_mem.2 ⟨x,h,.inr rfl⟩) (fun h=>endsB_mem.2 ⟨x,h,.inr rfl⟩))))
  exact⟨fun h=>hin _ e1 h,fun h=>hin _ e2 h⟩
theorem segTo_next{top:Int}{st:List Int}{i:Nat}(h:i<st.length):(st++[top+1])[i+1]? =some (segTo top st i+1):=by
 unfold segTo
 rcases aB (i+1) st.length with h1|h1
 ·rw[aY h1,aD h1]
  simp
 ·rw[bB h1,bN h1,show i+1-st.length=0 by omega]
  rfl
theorem grow_head{x t:Int}{rest:List Bx}{out:List (Grp (List Bx))}(s:Int×Int)(r:List Bx)(h:∃hi more,out=⟨x,hi,rest⟩::more):∃hi more,grow eqB out s r=⟨x,hi,rest⟩::more:=by
 obtain⟨hi,more,rfl⟩:=h
 unfold grow
 split
 ·exact⟨hi,more,rfl⟩
 ·rcases cK more with hn|⟨ini,g,hc⟩
  ·subst hn
   simp only[cB]
   split
   ·exact⟨s.2,[],rfl⟩
   ·exact⟨hi,_,rfl⟩
  ·rw[cL]at hc
   subst hc
   rw[show(⟨x,hi,rest⟩::(ini++[g]):List (Grp (List Bx)))=(⟨x,hi,rest⟩::ini)++[g]from rfl]
   simp only[cN,cB,dK,cX]
   split
   ·exact⟨hi,_,rfl⟩
   ·exact⟨hi,_,rfl⟩
theorem fold_head{R:Int->List Bx}{x:Int}{rest:List Bx}:∀(l:List (Int×Int)) (out:List (Grp (List Bx))),(∃hi more,out=⟨x,hi,rest⟩::more)->∃hi more,l.foldl (fun out s=>grow eqB out s (R s.1)) out=⟨x,hi,rest⟩::more
 |[],out,h=>h
 |s::l,out,h=>fold_head l _ (grow_head (t:=0) s (R s.1) h)
theorem gsAt_nil{R:Int->List Bx}{top:Int}{st:List Int}:∀(i:Nat),(∀(j:Nat) x,j<i->st[j]? =some x->R x=[])->gsAt R top st i=[]
 |0,_=>rfl
 |i+1,h=>by
  have ih:=gsAt_nil (R:=R) (top:=top) i fun j x hj hx=>h j x zo hx
  cases hx:st[i]? with
  |none=>
   have hl:st.length<=i:=List.getElem?_eq_none_iff.1 hx
   rw[gsAt_all zo,<-gsAt_all hl,ih]
  |some x=>rw[gsAt_succ hx,ih,h i x zo hx,grow_nil]
theorem groups_first{R:Int->List Bx}{top:Int}{st:List Int}{i:Nat}{x:Int}(hx:st[i]? =some x)(hne:R x≠[])(h:∀(j:Nat) y,j<i->st[j]? =some y->R y=[]):∃hi more,groupsOf R top st=⟨x,hi,R x⟩::more:=by
 have e:groupsOf R top st=((segs top st).drop (i+1)).foldl (fun out s=>grow eqB out s (R s.1)) (gsAt R top st (i+1)):=by
  rw[groupsOf,gsAt,<-List.foldl_append,cQ]
 rw[e]
 refine fold_head _ _ ?_
 rw[gsAt_succ hx,gsAt_nil i h]
 refine⟨segTo top st i,[],?_⟩
 unfold grow
 have:(R x).isEmpty=false:=by cases hR:R x with
  |nil=>exact absurd hR hne
  |cons=>rfl
 rw[aE (by rw[this];decide)]
 rfl
def lows(l:List Bx):Nat->Int:=match l with
 |[]=>fun _=>0
 |b::_=>fun f=>(b.get f).lo
theorem lows_cano{op:Bool->Bool->Bool}{k:Nat}(hk:k<=4){a b:List Bx}{st:List Int}(hc:Cuts (topF (4-k)) (rngs (4-k) a b) st){i:Nat}{x:Int}(hx:st[i]? =some x)(hne:restAt op k a b x≠[])(h:∀(j:Nat) y,j<i->st[j]? =some y->restAt op k a b y=[]):
  cano op (k+1) a b≠[]/\lows (cano op (k+1) a b) (4-k)=x/\∀f,f<=4->f≠4-k->lows (cano op (k+1) a b) f=lows (restAt op k a b x) f:=by
 obtain⟨hi,more,hg⟩:=groups_first (top:=topF (4-k)) hx hne h
 have inv:=cano_ginv op k a b hc
 rw[cano_any op k a b hc,hg]
 rw[hg]at inv
 have hle:=inv.wf.head
 have hr:=hc.range x (aF hx)
 have hhi:=inv.low ⟨x,hi,restAt op k a b x⟩ zx
 have ht:=topF_pos (4-k)
 simp only at hhi hle
 obtain⟨y,ys,hy⟩:∃y ys,restAt op k a b x=y::ys:=by
  cases hR:restAt op k a b x with
  |nil=>exact absurd hR hne
  |cons y ys=>exact⟨y,ys,rfl⟩
 rw[hy]
 refine⟨by simp[flatG],?_,fun f hf hn=>?_⟩
 ·show((y.put (4-k) (mkR x hi)).get (4-k)).lo=x
  rw[get_put zo,mkR_lo zo zo zo zo]
 ·show((y.put (4-k) (mkR x hi)).get f).lo=(y.get f).lo
  rw[get_put_ne zo hf hn]
def InP(p:Nat->Int):Prop:=∀f,0<=p f/\p f<=topF f
theorem inP_zero:InP fun _=>0:=fun f=>⟨cF _,(topF_pos f).1⟩
theorem GInv.congr{β:Type}{R R':Int->List β}{l:List (Grp (List β))}{e:Int}(h:GInv R l e)(hR:∀v,0<=v->v<e->R v=R' v):GInv R' l e:=
 ⟨h.wf,fun v=>by
  rw[h.at_]
  by_cases hv:0<=v/\v<e
  ·rw[aG hv,aG hv,lab,lab,hR v hv.1 hv.2]
  ·rw[aE hv,aE hv],h.low,h.full⟩
theorem inK_congr{p q:Nat->Int}:∀(k:Nat) (b:Bx),k<=5->(∀f,f<=4->5<=f+k->p f=q f)->inK p k b=inK q k b
 |0,b,_,_=>rfl
 |k+1,b,hk,h=>by
  rw[inK,inK,h (4-k) zo zo,inK_congr k b zo fun f hf h5=>h f hf zo]
theorem memK_congr{p q:Nat->Int}{k:Nat}{l:List Bx}(hk:k<=5)(h:∀f,f<=4->5<=f+k->p f=q f):memK p k l=memK q k l:=by
 rw[memK,memK]
 induction l with
 |nil=>rfl
 |cons b l ih=>rw[List.any_cons,List.any_cons,ih,inK_congr k b hk h]
theorem inK_iff{p:Nat->Int}{b:Bx}:inK p 5 b=true↔∀f,f<=4->(b.get f).lo<=p f/\p f<=(b.get f).hi:=by
 simp only[inK,aI,aK,and_true]
 constructor
 ·rintro h f hf
  obtain rfl|rfl|rfl|rfl|rfl:f=0\/f=1\/f=2\/f=3\/f=4:=by omega
  all_goals simp_all
 ·intro h
  have h0:=h 0 zo;have h1:=h 1 zo;have h2:=h 2 zo;have h3:=h 3 zo;have h4:=h 4 zo
  simp_all
theorem memK_iff{p:Nat->Int}{l:List Bx}:memK p 5 l=true↔∃b,b∈l/\inK p 5 b=true:=by rw[memK,dM]
theorem inP_of{p:Nat->Int}(h:∀f,f<=4->0<=p f/\p f<=topF f):∃q,InP q/\∀f,f<=4->q f=p f:=by
 refine⟨fun f=>if f<=4 then p f else 0,fun f=>?_,fun f hf=>by simp only[hf,if_true]⟩
 by_cases hf:f<=4
 ·simp only[hf,if_true];exact h f hf
 ·simp only[hf,if_false];exact⟨cF _,(topF_pos f).1⟩
theorem box_point{b:Bx}(h:∀f,f<=4->(b.get f).lo<=(b.get f).hi/\(b.get f).hi<=topF f):∃p,InP p/\inK p 5 b=true:=by
 obtain⟨q,hq,he⟩:=inP_of (p:=fun f=>(b.get f).lo) fun f hf=>⟨(b.get f).l0,by have:=h f hf;omega⟩
 refine⟨q,hq,?_⟩
 rw[inK_iff]
 intro f hf
 rw[he f hf]
 exact⟨cF _,(h f hf).1⟩
theorem cano_nil_mem(op:Bool->Bool->Bool)(a b:List Bx):cano op 5 a b=[]↔∀p,InP p->op (memK p 5 a) (memK p 5 b)=false:=by
 constructor
 ·intro h p hp
  rw[<-cano_mem op hp 5 a b (aM _),h];rfl
 ·intro h
  cases hc:cano op 5 a b with
  |nil=>rfl
  |cons x l=>
   exfalso
   have hx:=okK_get (aM 5) (cano_ok op 5 a b (aM _) x (by rw[hc];simp))
   obtain⟨p,hp,hi⟩:=box_point (b:=x) fun f hf=>by have:=hx f hf;rw[aG zo]at this;exact this
   have:=cano_mem op hp 5 a b (aM _)
   rw[h p hp,hc,memK,List.any_cons,hi]at this
   cases this
def woB(x y:Bool):Bool:=x&& !y
def anB(x y:Bool):Bool:=x&&y
def subS(a b:List Bx):Prop:=∀p,InP p->memK p 5 a=true->memK p 5 b=true
theorem cano_sub(a b:List Bx):cano woB 5 a b=[]↔subS a b:=by
 rw[cano_nil_mem]
 constructor
 ·intro h p hp ha
  have:=h p hp
  rw[woB,ha]at this
  simpa using this
 ·intro h p hp
  rw[woB]
  cases ha:memK p 5 a with
  |false=>rfl
  |true=>rw[h p hp ha];rfl
def meetX(x y:Bx):Prop:=∀f,f<=4->(x.get f).lo<=(y.get f).hi/\(y.get f).lo<=(x.get f).hi
theorem cano_disj{a b:List Bx}(ha:∀x,x∈a->∀f,f<=4->(x.get f).lo<=(x.get f).hi/\(x.get f).hi<=topF f)(hb:∀x,x∈b->∀f,f<=4->(x.get f).lo<=(x.get f).hi/\(x.get f).hi<=topF f):
  cano anB 5 a b=[]↔∀x,x∈a->∀y,y∈b->¬meetX x y:=by
 rw[cano_nil_mem]
 constructor
 ·intro h x hx y hy hm
  obtain⟨q,hq,he⟩:=inP_of (p:=fun f=>max (x.get f).lo (y.get f).lo) fun f hf=>by
   have:=ha x hx f hf;have:=hb y hy f hf;have:=hm f hf;have:=(x.get f).l0
   omega
  have h1:memK q 5 a=true:=memK_iff.2 ⟨x,hx,inK_iff.2 fun f hf=>by
   have:=ha x hx f hf;have:=hb y hy f hf;have:=hm f hf
   rw[he f hf];omega⟩
  have h2:memK q 5 b=true:=memK_iff.2 ⟨y,hy,inK_iff.2 fun f hf=>by
   have:=ha x hx f hf;have:=hb y hy f hf;have:=hm f hf
   rw[he f hf];omega⟩
  have:=h q hq
  rw[h1,h2]at this
  cases this
 ·intro h p hp
  cases h1:memK p 5 a with
  |false=>rfl
  |true=>
   cases h2:memK p 5 b with
   |false=>rfl
   |true=>
    obtain⟨x,hx,hix⟩:=memK_iff.1 h1
    obtain⟨y,hy,hiy⟩:=memK_iff.1 h2
    exact absurd (fun f hf=>by
     have:=inK_iff.1 hix f hf
     have:=inK_iff.1 hiy f hf
     omega) (h x hx y hy)
theorem opI_1:opI 1=anB:=by funext x y;rfl
theorem opI_2:opI 2=woB:=by funext x y;rfl
theorem cr4Int(a b:List Bx)(ha:a.length<1000000000)(hb:b.length<1000000000){K:KT}(hK:K (.tup [encXs (combP anB a b).1,.v (.int .i64 (combP anB a b).2)]) []):ACall Tryz.prog 57 [encXs a,encXs b] [] K:=by
 have hc:∀{K:KT},K (.tup [encXs (combP anB a b).1,.v (.int .i64 (combP anB a b).2)]) []->ACall Tryz.prog 130 [encXs a,encXs b,.v (.int .i64 1)] [] K:=fun h=>cr4Comb 1 a b ha hb (by rw[opI_1];exact h)
 refine ofr4Int rfl rfl ?_
 (repeat' ((conv=>whnf);first|(with_reducible refine hc ?_)|refine zG ?_|apply zA|(apply zI;intro h)|exact zT));(all_goals conv=>whnf)
 exact hK
theorem cr4Un(a b:List Bx)(ha:a.length<1000000000)(hb:b.length<1000000000){K:KT}(hK:K (.tup [encXs (combP orB a b).1,.v (.int .i64 (combP orB a b).2)]) []):ACall Tryz.prog 59 [encXs a,encXs b] [] K:=by
 have hc:∀{K:KT},K (.tup [encXs (combP orB a b).1,.v (.int .i64 (combP orB a b).2)]) []->ACall Tryz.prog 130 [encXs a,encXs b,.v (.int .i64 0)] [] K:=fun h=>cr4Comb 0 a b ha hb (by rw[opI_0];exact h)
 refine ofr4Un rfl rfl ?_
 (repeat' ((conv=>whnf);first|(with_reducible refine hc ?_)|refine zG ?_|apply zA|(apply zI;intro h)|exact zT));(all_goals conv=>whnf)
 exact hK
theorem cr4Sub(a b:List Bx)(ha:a.length<1000000000)(hb:b.length<1000000000){K:KT}(hK:K (.tup [encXs (combP woB a b).1,.v (.int .i64 (combP woB a b).2)]) []):ACall Tryz.prog 58 [encXs a,encXs b] [] K:=by
 have hc:∀{K:KT},K (.tup [encXs (combP woB a b).1,.v (.int .i64 (combP woB a b).2)]) []->ACall Tryz.prog 130 [encXs a,encXs b,.v (.int .i64 2)] [] K:=fun h=>cr4Comb 2 a b ha hb (by rw[opI_2];exact h)
 refine ofr4Sub rfl rfl ?_
 (repeat' ((conv=>whnf);first|(with_reducible refine hc ?_)|refine zG ?_|apply zA|(apply zI;intro h)|exact zT));(all_goals conv=>whnf)
 exact hK
theorem cr4Subs(a b:List Bx)(hab:a.length+b.length<50000)(hr:(cano woB 5 (vldB a) (vldB b)).length<=900000000000){K:KT}(hK:K (.sb (cano woB 5 (vldB a) (vldB b)).isEmpty) []):ACall Tryz.prog 33 [encXs a,encXs b] [] K:=by
 have hc:∀{K:KT},K (encXs (cano woB 5 (vldB a) (vldB b))) []->ACall Tryz.prog 92 [encXs (vldB a),encXs (vldB b),.v (.int .i64 2),.v (.int .i64 0)] [] K:=fun h=>cr4Rests 2 5 (aM _) _ _ (by have:=vldB_len a;have:=vldB_len b;omega) (by rw[opI_2];exact hr) (by rw[opI_2];exact h)
 refine ACall.bool (ofr4Subs rfl rfl ?_)
 (repeat' ((conv=>whnf);first|(with_reducible first|refine cr4Val a zo ?_|refine cr4Val b zo ?_|refine hc ?_)|refine zG ?_|apply zA|(apply zI;intro h)|exact zT));(all_goals conv=>whnf)
 refine fin_s hK ?_
 rw[aA]
 cases cano woB 5 (vldB a) (vldB b)with
 |nil=>rfl
 |cons x l=>simp;omega
theorem cr4Same(a b:List Bx)(ha:a.length<1000000000000)(hb:b.length<1000000000000){K:KT}(hK:K (.sb (decide (a=b))) []):ACall Tryz.prog 61 [encXs a,encXs b] [] K:=by
 refine ofr4Same rfl rfl ?_
 (repeat' ((conv=>whnf);first|(with_reducible refine cr3Same a b ha hb ?_)|refine zG ?_|apply zA|(apply zI;intro h)|exact zT));(all_goals conv=>whnf)
 exact hK
def fb(p0 p1 s0 s1 d0 d1:Int):Bx:=⟨mkR 0 4294967295,mkR 0 4294967295,mkR p0 p1,mkR s0 s1,mkR d0 d1⟩
def initR:List Bx:=[fb 0 0 0 0 0 0,fb 2 5 0 0 0 0,fb 7 16 0 0 0 0,fb 18 255 0 0 0 0,fb 6 6 0 65535 0 65535,fb 17 17 0 65535 0 65535,fb 1 1 0 7 8 8,fb 1 1 9 65535 8 8]
def initS:List Bx:=[fb 0 0 0 0 0 0,fb 1 1 0 7 8 8,fb 1 1 9 65535 8 8,fb 2 5 0 0 0 0,fb 6 6 0 65535 0 65535,fb 7 16 0 0 0 0,fb 17 17 0 65535 0 65535,fb 18 255 0 0 0 0]
theorem init_canon:cano orB 5 (vldB initR) []=initS:=by decide+kernel
theorem cr4Init{K:KT}(hK:K (encXs initS) []):ACall Tryz.prog 128 [] [] K:=by
 have hc:∀{K:KT},K (encXs initS) []->ACall Tryz.prog 220 [encXs initR] [] K:=fun h=>cr4Canon initR zd (by rw[init_canon];decide) (by rw[init_canon];exact h)
 refine ofr4Init rfl rfl ?_
 (repeat' ((conv=>whnf);first|(with_reducible refine Lp.times 6 ?_)|(refine in_c zd ?_)|(refine Ix.intro rfl ?_)|(with_reducible refine cr3Full ?_)|(refine hc ?_)|refine zG ?_|apply zA|(apply zI;intro h)|exact zT));(all_goals conv=>whnf)
 exact hK
def okL(l:List Bx):Prop:=∀x,x∈l->∀f,f<=4->(x.get f).lo<=(x.get f).hi/\(x.get f).hi<=topF f
theorem okL_at{f:Nat}{v:Int}{l:List Bx}(h:okL l):okL (atF f v l):=fun x hx=>h x (cE.1 hx).1
theorem okL_nil:okL []:=fun x hx=>by simp at hx
theorem okL_cano(op:Bool->Bool->Bool)(a b:List Bx):okL (cano op 5 a b):=fun x hx f hf=>by
 have:=okK_get (aM 5) (cano_ok op 5 a b (aM _) x hx) f hf
 rw[aG zo]at this
 exact this
theorem okL_vld(l:List Bx):okL (vldB l):=fun x hx=>ok_get (by simpa using(cE.1 hx).2)
theorem okL_set{l:List Bx}(h:setB l=true):okL l:=by
 rw[<-setB_same h];exact okL_cano orB l []
theorem okL_makeGo:∀(l s:List Bx),okL s->okL (makeGo s l).1
 |[],s,h=>h
 |b::l,s,h=>by
  rw[makeGo]
  split
  ·split
   ·exact okL_nil
   ·exact okL_makeGo l _ (okL_cano _ _ _)
  ·exact okL_makeGo l s h
theorem okL_giv(l:List Bx):okL (givP l).1:=by
 unfold givP
 split
 ·exact okL_set zp
 ·exact okL_makeGo l [] okL_nil
noncomputable def guComp:Ctx:={N:=14,plan:=at1 1 (some (ln [1,2,5,7,13,15,17,8,11,19,21,23])) (fun _=>none)}
noncomputable def buComp:Code:=bdy Tryz.f53
abbrev ofuComp:=@ofC Tryz.prog guComp 53 Tryz.f53 buComp Tryz.func53 zk zk zk zk
noncomputable def gnCopy:Ctx:={N:=24,res:=true}
noncomputable def bnCopy:Code:=bdy Tryz.f88
abbrev ofnCopy:=@ofC Tryz.prog gnCopy 88 Tryz.f88 bnCopy Tryz.func88 zk zk zk zk
noncomputable def gnAddr:Ctx:={N:=40,np:=1,own:=at1 16 (true) (fun _=>false),plan:=at1 5 (some (.one 0 true (.one 2 true (.one 4 true (.one 7 true (.one 10 true (.one 14 true (.wch 1 (.wch 3 (.wch 5 (.one 6 true (.wch 8 (.one 9 true (.wch 11 (.one 12 true (.alt 13 (ln [30,33,35,37]) (.alt 15 (ln [26,33,35,37]) (.stop)))))))))))))))))) (fun _=>none)}
noncomputable def bnAddr:Code:=bdy Tryz.f64
abbrev ofnAddr:=@ofC Tryz.prog gnAddr 64 Tryz.f64 bnAddr Tryz.func64 zk zk zk zk
noncomputable def gtComp:Ctx:={N:=11}
noncomputable def btComp:Code:=bdy Tryz.f71
abbrev oftComp:=@ofC Tryz.prog gtComp 71 Tryz.f71 btComp Tryz.func71 zk zk zk zk
noncomputable def gtCom1:Ctx:={N:=5}
noncomputable def btCom1:Code:=bdy Tryz.f148
abbrev oftCom1:=@ofC Tryz.prog gtCom1 148 Tryz.f148 btCom1 Tryz.func148 zk zk zk zk
noncomputable def ganyEdge:Ctx:={N:=9}
noncomputable def banyEdge:Code:=bdy Tryz.f147
abbrev ofanyEdge:=@ofC Tryz.prog ganyEdge 147 Tryz.f147 banyEdge Tryz.func147 zk zk zk zk
def sEq(a b:ByteArray):Bool:=a.toList==b.toList
def devIx(l:List Dv)(n:ByteArray):Int:=firstIx (fun d=>sEq d.name n) l
def edgeIx(l:List Ed)(n:ByteArray):Int:=firstIx (fun d=>sEq d.name n) l
theorem ctDev1(d:Dv)(n:ByteArray){K:KT}(hK:K (.sb (sEq d.name n)) []):ACall Tryz.prog 285 [encD d,.fp [.v (.string n)]] [] K:=by
 refine oftDev1 rfl rfl ?_
 iterate 9 (all_goals((conv=>whnf);first|refine zG ?_|apply zA|(apply zI;intro h)|exact zT|skip))
 exact hK
theorem ctDev(t:Tp)(n:ByteArray)(hl:t.devs.length<1000000){K:KT}(hK:K (.v (.int .i64 (devIx t.devs n))) []):ACall Tryz.prog 228 [encT t,.v (.string n)] [] K:=by
 refine oftDev rfl rfl ?_
 iterate 9 (all_goals((conv=>whnf);first|(with_reducible refine cixDev _ _ _ (fun d=>sEq d.name n) (fun x K h=>ctDev1 x n h) hl ?_)|refine zG ?_|apply zA|(apply zI;intro h)|exact zT|skip))
 exact hK
theorem cuDev(t:Tp)(n:ByteArray)(hl:t.devs.length<1000000){K:KT}(hK:K (.v (.int .i64 (devIx t.devs n))) []):ACall Tryz.prog 278 [encT t,.v (.string n)] [] K:=by
 refine ofuDev rfl rfl ?_
 iterate 4 (all_goals((conv=>whnf);first|refine zG ?_|apply zA|(apply zI;intro h)|exact zT|skip))
 refine Lp.intro Nat (fun k=>⟨1,[(0,.box [.lst (t.devs.map encD),.lst (t.links.map encL),.lst (t.edges.map encE),.lst (t.pools.map encP),.v (.int .i64 t.tol)])],[(1,.v (.string n)),(2,.op 0 0),(5,.v (.int .i64 k))]⟩) (fun k=>k<=t.devs.length/\∀(i:Nat) y,i<k->t.devs[i]? =some y->sEq y.name n=false) (fun k=>t.devs.length-k) 0 ?_ ?_ ?_
 ·exact⟨aH _,fun i y hi=>absurd hi (aZ _)⟩
 ·exact⟨[(0,0)],rfl,⟨rfl,rfl,rfl,trivial⟩,rfl,trivial⟩
 ·intro k ⟨hk,hinv⟩
  rcases aB k t.devs.length with hkl|hkl
  ·obtain⟨r,hr⟩:=gex hkl
   iterate 14 (all_goals((conv=>whnf);first|(with_reducible first|refine in_map hkl ?_|refine ix_map hr ?_)|refine zG ?_|apply zA|(apply zI;intro h)|exact zT|skip))
   ·rw[devIx,firstIx_at hr h hinv]at hK;exact hK
   ·exact⟨k+1,⟨by omega,before_succ hr h hinv⟩,by omega,⟨[(0,0)],rfl,⟨rfl,rfl,rfl,trivial⟩,rfl,trivial⟩⟩
  ·iterate 8 (all_goals((conv=>whnf);first|refine zG ?_|apply zA|(apply zI;intro h)|exact zT|skip))
   rw[devIx,firstIx_none (before_all hkl hinv)]at hK
   exact hK
theorem ctEdge1(d:Ed)(n:ByteArray){K:KT}(hK:K (.sb (sEq d.name n)) []):ACall Tryz.prog 271 [encE d,.fp [.v (.string n)]] [] K:=by
 refine oftEdge1 rfl rfl ?_
 iterate 9 (all_goals((conv=>whnf);first|refine zG ?_|apply zA|(apply zI;intro h)|exact zT|skip))
 exact hK
theorem ctEdge(t:Tp)(n:ByteArray)(hl:t.edges.length<1000000){K:KT}(hK:K (.v (.int .i64 (edgeIx t.edges n))) []):ACall Tryz.prog 196 [encT t,.v (.string n)] [] K:=by
 refine oftEdge rfl rfl ?_
 iterate 9 (all_goals((conv=>whnf);first|(with_reducible refine cixEdge _ _ _ (fun d=>sEq d.name n) (fun x K h=>ctEdge1 x n h) hl ?_)|refine zG ?_|apply zA|(apply zI;intro h)|exact zT|skip))
 exact hK
theorem cuEdge(t:Tp)(n:ByteArray)(hl:t.edges.length<1000000){K:KT}(hK:K (.v (.int .i64 (edgeIx t.edges n))) []):ACall Tryz.prog 82 [encT t,.v (.string n)] [] K:=by
 refine ofuEdge rfl rfl ?_
 iterate 4 (all_goals((conv=>whnf);first|refine zG ?_|apply zA|(apply zI;intro h)|exact zT|skip))
 refine Lp.intro Nat (fun k=>⟨1,[(0,.box [.lst (t.devs.map encD),.lst (t.links.map encL),.lst (t.edges.map encE),.lst (t.pools.map encP),.v (.int .i64 t.tol)])],[(1,.v (.string n)),(2,.op 0 0),(5,.v (.int .i64 k))]⟩) (fun k=>k<=t.edges.length/\∀(i:Nat) y,i<k->t.edges[i]? =some y->sEq y.name n=false) (fun k=>t.edges.length-k) 0 ?_ ?_ ?_
 ·exact⟨aH _,fun i y hi=>absurd hi (aZ _)⟩
 ·exact⟨[(0,0)],rfl,⟨rfl,rfl,rfl,trivial⟩,rfl,trivial⟩
 ·intro k ⟨hk,hinv⟩
  rcases aB k t.edges.length with hkl|hkl
  ·obtain⟨r,hr⟩:=gex hkl
   iterate 14 (all_goals((conv=>whnf);first|(with_reducible first|refine in_map hkl ?_|refine ix_map hr ?_)|refine zG ?_|apply zA|(apply zI;intro h)|exact zT|skip))
   ·rw[edgeIx,firstIx_at hr h hinv]at hK;exact hK
   ·exact⟨k+1,⟨by omega,before_succ hr h hinv⟩,by omega,⟨[(0,0)],rfl,⟨rfl,rfl,rfl,trivial⟩,rfl,trivial⟩⟩
  ·iterate 8 (all_goals((conv=>whnf);first|refine zG ?_|apply zA|(apply zI;intro h)|exact zT|skip))
   rw[edgeIx,firstIx_none (before_all hkl hinv)]at hK
   exact hK
def devOk(d:Dv):Prop:=nameOk d.name/\0<=d.cap/\d.cap<=4096/\(sEq d.cls ⟨#[]⟩=true\/nameOk d.cls)
open Classical in
noncomputable def devB(d:Dv):Bool:=decide (devOk d)
theorem devB_true{d:Dv}(h:devOk d):devB d=true:=by simp[devB,h]
theorem devB_false{d:Dv}(h:¬devOk d):devB d=false:=by simp[devB,h]
theorem devB_iff{d:Dv}:devB d=true↔devOk d:=by simp[devB]
theorem nameB_not{s:ByteArray}(h:nameB s=false):¬nameOk s:=fun hn=>by rw[nameB_true hn]at h;cases h
theorem ctDevOk(d:Dv){K:KT}(hK:K (.sb (devB d)) []):ACall Tryz.prog 227 [encD d] [] K:=by
 refine ACall.bool (oftDevOk rfl rfl ?_)
 iterate 30 (all_goals((conv=>whnf);first|(with_reducible refine csName _ ?_)|refine zG ?_|apply zA|(apply zI;intro h)|exact zT|skip))
 all_goals first
  |(refine fin_t hK (devB_true ⟨nameB_iff.1 zp,by omega,by omega,?_⟩);exact .inl zp)
  |(refine fin_s hK ?_
    rw[bG,devB_iff,nameB_iff]
    refine⟨fun hh=>hh.2.2.2.resolve_left (by rw[sEq,h];simp),fun hh=>⟨nameB_iff.1 zp,by omega,by omega,.inr hh⟩⟩)
  |(refine fin_f hK (devB_false fun hn=>?_)
    obtain⟨n1,n2,n3,n4⟩:=hn
    first|omega|exact nameB_not zp n1)
def edgeOk(n:Int)(e:Ed):Prop:=nameOk e.name/\nameOk e.zone/\0<=e.dev/\e.dev<n/\1<=e.pf.bits/\e.pf.okP/\(e.pl=false\/e.pf.addr=0)
open Classical in
noncomputable def edgeB(n:Int)(e:Ed):Bool:=decide (edgeOk n e)
theorem edgeB_true{n:Int}{e:Ed}(h:edgeOk n e):edgeB n e=true:=by simp[edgeB,h]
theorem edgeB_false{n:Int}{e:Ed}(h:¬edgeOk n e):edgeB n e=false:=by simp[edgeB,h]
theorem pl_of{e:Ed}(h:e.pl=true):¬e.pl=false:=by simp[h]
theorem edgeB_iff{n:Int}{e:Ed}:edgeB n e=true↔edgeOk n e:=by simp[edgeB]
theorem ctEdgeOk(t:Tp)(e:Ed){K:KT}(hK:K (.sb (edgeB t.devs.length e)) []):ACall Tryz.prog 229 [encT t,encE e] [] K:=by
 refine ACall.bool (oftEdgeOk rfl rfl ?_)
 iterate 50 (all_goals((conv=>whnf);first|(with_reducible first|refine csName _ ?_|refine cpVal e.pf ?_)|refine zG ?_|apply zA|(apply zI;intro h)|exact zT|skip))
 all_goals(try simp only[aA]at*)
 all_goals first
  |(refine fin_t hK (edgeB_true ⟨nameB_iff.1 zp,nameB_iff.1 zp,by omega,by omega,by omega,by assumption,.inl zp⟩))
  |(refine fin_s hK ?_
    rw[bG,edgeB_iff,aK]
    refine⟨fun hh=>hh.2.2.2.2.2.2.resolve_left (pl_of zp),fun hh=>⟨nameB_iff.1 zp,nameB_iff.1 zp,by omega,by omega,by omega,by assumption,.inr hh⟩⟩)
  |(refine fin_f hK (edgeB_false fun hn=>?_)
    obtain⟨n1,n2,n3,n4,n5,n6,n7⟩:=hn
    first|omega|(exact absurd n6 zp)|exact nameB_not zp n1|exact nameB_not zp n2)
theorem cuEdgeOk(e:Ed)(n:Int){K:KT}(hK:K (.sb (edgeB n e)) []):ACall Tryz.prog 211 [encE e,.v (.int .i64 n)] [] K:=by
 refine ACall.bool (ofuEdgeOk rfl rfl ?_)
 iterate 50 (all_goals((conv=>whnf);first|(with_reducible first|refine crName _ ?_|refine crVal e.pf ?_)|refine zG ?_|apply zA|(apply zI;intro h)|exact zT|skip))
 all_goals(try simp only[aA]at*)
 all_goals first
  |(refine fin_t hK (edgeB_true ⟨nameB_iff.1 zp,nameB_iff.1 zp,by omega,by omega,by omega,by assumption,.inl zp⟩))
  |(refine fin_s hK ?_
    rw[bG,edgeB_iff,aK]
    refine⟨fun hh=>hh.2.2.2.2.2.2.resolve_left (pl_of zp),fun hh=>⟨nameB_iff.1 zp,nameB_iff.1 zp,by omega,by omega,by omega,by assumption,.inr hh⟩⟩)
  |(refine fin_f hK (edgeB_false fun hn=>?_)
    obtain⟨n1,n2,n3,n4,n5,n6,n7⟩:=hn
    first|omega|(exact absurd n6 zp)|exact nameB_not zp n1|exact nameB_not zp n2)
def linkOk(n:Int)(l:Lk):Prop:=0<=l.a/\l.a<l.b/\l.b<n/\1<=l.cost/\l.cost<=1000
def apartE(e o:Ed):Prop:=¬(e.pl=false/\o.pl=false/\e.pf.meet o.pf=true)
theorem take_get{α:Type}{l:List α}{k j:Nat}{o:α}:(l.take k)[j]? =some o↔(j<k/\l[j]? =some o):=by
 rw[cS]
 split
 ·rename_i h;exact⟨fun h1=>⟨h,h1⟩,fun h1=>h1.2⟩
 ·rename_i h
  refine⟨fun h1=>?_,fun h1=>absurd h1.1 h⟩
  cases h1
structure TopOk (t:Tp):Prop where
 d0:1<=t.devs.length
 d1:t.devs.length<=12
 l1:t.links.length<=24
 e1:t.edges.length<=12
 p1:t.pools.length<=8
 t0:0<=t.tol
 t1:t.tol<=2
 dev:∀(i:Nat) d,t.devs[i]? =some d->devOk d/\devIx t.devs d.name=i
 link:∀(i:Nat) l,t.links[i]? =some l->linkOk t.devs.length l
 edge:∀(i:Nat) e,t.edges[i]? =some e->edgeOk t.devs.length e/\edgeIx t.edges e.name=i
 apart:∀(i:Nat) e,t.edges[i]? =some e->∀(j:Nat) o,j<i->t.edges[j]? =some o->apartE e o
 pool:∀(i:Nat) p,t.pools[i]? =some p->p.okP/\∀(j:Nat) q,j<i->t.pools[j]? =some q->p.meet q=false
open Classical in
noncomputable def topB(t:Tp):Bool:=decide (TopOk t)
theorem topB_true{t:Tp}(h:TopOk t):topB t=true:=by simp[topB,h]
theorem topB_false{t:Tp}(h:¬TopOk t):topB t=false:=by simp[topB,h]
theorem topB_iff{t:Tp}:topB t=true↔TopOk t:=by simp[topB]
theorem ctVal1(p q:Pf){K:KT}(hK:K (.sb (p.meet q)) []):ACall Tryz.prog 232 [encP q,.fp [.v (.int .u32 p.addr),.v (.int .i64 p.bits)]] [] K:=by
 refine oftVal1 rfl rfl ?_
 iterate 9 (all_goals((conv=>whnf);first|(with_reducible refine ctOvl p q ?_)|refine zG ?_|apply zA|(apply zI;intro h)|exact zT|skip))
 exact hK
theorem canyPf(l:List Pf)(p:Pf)(hl:l.length<1000000){K:KT}(hK:K (.sb (l.any fun q=>p.meet q)) []):
  ACall Tryz.prog 231 [.lst (l.map encP),.fn (.func 232) [] [.fp [.v (.int .u32 p.addr),.v (.int .i64 p.bits)]]] [] K:=by
 refine ACall.bool (ofanyPf rfl rfl ?_)
 iterate 9 (all_goals((conv=>whnf);first|(with_reducible refine cixPf _ _ _ (fun q=>p.meet q) (fun x K h=>ctVal1 p x h) hl ?_)|refine zG ?_|apply zA|(apply zI;intro h)|exact zT|skip))
 refine fin_s hK ?_
 rw[bG,dM,aK]
 constructor
 ·rintro⟨x,hx,hp⟩
  unfold firstIx
  split
  ·omega
  ·rename_i hn
   rw[fM]at hn
   have:=hn x hx
   simp_all
 ·intro h
  unfold firstIx at h
  split at h
  ·rename_i i hi
   rw[dP]at hi
   obtain⟨h1,h2,_⟩:=hi
   exact⟨_,dD h1,h2⟩
  ·omega
noncomputable abbrev boxT(t:Tp):Vm.Obj:=.box [.lst (t.devs.map encD),.lst (t.links.map encL),.lst (t.edges.map encE),.lst (t.pools.map encP),.v (.int .i64 t.tol)]
theorem ctVal(t:Tp){K:KT}(hK:K (.sb (topB t)) []):ACall Tryz.prog 146 [encT t] [] K:=by
 refine ACall.bool (oftVal rfl rfl ?_)
 iterate 50 (all_goals((conv=>whnf);first|refine zG ?_|apply zA|(apply zI;intro h)|exact zT|skip))
 all_goals first
  |(exact fin_f hK (topB_false fun hn=>by
    have:=hn.d0;have:=hn.d1;have:=hn.l1;have:=hn.e1;have:=hn.p1;have:=hn.t0;have:=hn.t1
    simp only[aA]at*
    omega))
  |skip
 obtain⟨d0,d1,l1,e1,p1,t0,t1⟩:1<=t.devs.length/\t.devs.length<=12/\t.links.length<=24/\t.edges.length<=12/\t.pools.length<=8/\0<=t.tol/\t.tol<=2:=by
  simp only[aA]at*
  omega
 refine Lp.intro Nat (fun k=>⟨1,[(0,boxT t)],[(1,.op 0 0),(52,.lst (t.devs.map encD)),(53,.v (.int .i64 (t.devs.map encD).length)),(54,.v (.int .i64 k))]⟩)
  (fun k=>k<=t.devs.length/\∀(i:Nat) d,i<k->t.devs[i]? =some d->devOk d/\devIx t.devs d.name=i) (fun k=>t.devs.length-k) 0 ?_ ?_ ?_
 ·exact⟨aH _,fun i y hi=>absurd hi (aZ _)⟩
 ·exact⟨[(0,0)],rfl,⟨rfl,rfl,rfl,rfl,trivial⟩,rfl,trivial⟩
 intro k ⟨hk,hinv⟩
 rcases aB k t.devs.length with hkl|hkl
 ·obtain⟨r,hr⟩:=gex hkl
  iterate 40 (all_goals((conv=>whnf);first|(with_reducible first|refine in_map hkl ?_|refine ix_map hr ?_|refine ctDevOk r ?_|refine ctDev t _ zo ?_)|refine zG ?_|apply zA|(apply zI;intro h)|exact zT|skip))
  ·exact⟨k+1,⟨by omega,all_succ hr ⟨devB_iff.1 zp,h⟩ hinv⟩,by omega,⟨[(0,0)],rfl,⟨rfl,rfl,rfl,rfl,trivial⟩,rfl,trivial⟩⟩
  ·exact fin_f hK (topB_false fun hn=>h (hn.dev k r hr).2)
  ·exact fin_f hK (topB_false fun hn=>by rw[devB_true (hn.dev k r hr).1]at h;cases h)
 have hdev:=before_all hkl hinv
 iterate 20 (all_goals((conv=>whnf);first|refine zG ?_|apply zA|(apply zI;intro h)|exact zT|skip))
 refine Lp.intro Nat (fun k=>⟨1,[(0,boxT t)],[(1,.op 0 0),(72,.lst (t.links.map encL)),(73,.v (.int .i64 (t.links.map encL).length)),(74,.v (.int .i64 k))]⟩)
  (fun k=>k<=t.links.length/\∀(i:Nat) d,i<k->t.links[i]? =some d->linkOk t.devs.length d) (fun k=>t.links.length-k) 0 ?_ ?_ ?_
 ·exact⟨aH _,fun i y hi=>absurd hi (aZ _)⟩
 ·exact⟨[(0,0)],rfl,⟨rfl,rfl,rfl,rfl,trivial⟩,rfl,trivial⟩
 intro k ⟨hk,hinv⟩
 rcases aB k t.links.length with hkl|hkl
 ·obtain⟨r,hr⟩:=gex hkl
  iterate 50 (all_goals((conv=>whnf);first|(with_reducible first|refine in_map hkl ?_|refine ix_map hr ?_)|refine zG ?_|apply zA|(apply zI;intro h)|exact zT|skip))
  all_goals first
   |(refine fin_f hK (topB_false fun hn=>?_)
     obtain⟨n1,n2,n3,n4,n5⟩:=hn.link k r hr
     simp only[aA]at*
     omega)
   |(refine⟨k+1,⟨by omega,all_succ hr ?_ hinv⟩,by omega,⟨[(0,0)],rfl,⟨rfl,rfl,rfl,rfl,trivial⟩,rfl,trivial⟩⟩
     unfold linkOk
     simp only[aA]at*
     omega)
 have hlink:=before_all hkl hinv
 iterate 20 (all_goals((conv=>whnf);first|refine zG ?_|apply zA|(apply zI;intro h)|exact zT|skip))
 refine Lp.intro Nat (fun k=>⟨1,[(0,boxT t)],[(1,.op 0 0),(108,.lst (t.edges.map encE)),(109,.v (.int .i64 (t.edges.map encE).length)),(110,.v (.int .i64 k))]⟩)
  (fun k=>k<=t.edges.length/\∀(i:Nat) e,i<k->t.edges[i]? =some e->(edgeOk t.devs.length e/\edgeIx t.edges e.name=i)/\∀(j:Nat) o,j<i->t.edges[j]? =some o->apartE e o) (fun k=>t.edges.length-k) 0 ?_ ?_ ?_
 ·exact⟨aH _,fun i y hi=>absurd hi (aZ _)⟩
 ·exact⟨[(0,0)],rfl,⟨rfl,rfl,rfl,rfl,trivial⟩,rfl,trivial⟩
 intro k ⟨hk,hinv⟩
 rcases aB k t.edges.length with hkl|hkl
 ·obtain⟨r,hr⟩:=gex hkl
  iterate 40 (all_goals((conv=>whnf);first|(with_reducible first|refine in_map hkl ?_|refine ix_map hr ?_|refine ctEdgeOk t r ?_|refine ctEdge t _ zo ?_)|refine zG ?_|apply zA|(apply zI;intro h)|exact zT|skip))
  ·refine sb_take zo ?_
   have hlen:(t.edges.take k).length=k:=by simp;omega
   have hget:∀(j:Nat) o,(t.edges.take k)[j]? =some o↔j<k/\t.edges[j]? =some o:=fun j o=>take_get
   iterate 9 (all_goals((conv=>whnf);first|refine zG ?_|apply zA|(apply zI;intro h)|exact zT|skip))
   refine Lp.intro Nat (fun j=>⟨2,[(1,.box [.v (.string r.name),.v (.int .i64 r.dev),.v (.string r.zone),.v (.int .u32 r.pf.addr),.v (.int .i64 r.pf.bits),.sb r.pl]),(0,boxT t)],
    [(1,.op 0 0),(8,.op 1 0),(108,.lst (t.edges.map encE)),(109,.v (.int .i64 (t.edges.map encE).length)),(110,.v (.int .i64 k)),(130,.lst ((t.edges.take k).map encE)),(131,.v (.int .i64 ((t.edges.take k).map encE).length)),(132,.v (.int .i64 j))]⟩)
    (fun j=>j<=(t.edges.take k).length/\∀(i:Nat) o,i<j->(t.edges.take k)[i]? =some o->apartE r o) (fun j=>(t.edges.take k).length-j) 0 ?_ ?_ ?_
   ·exact⟨aH _,fun i y hi=>absurd hi (aZ _)⟩
   ·exact⟨[(0,0),(1,1)],rfl,⟨rfl,rfl,rfl,rfl,rfl,rfl,rfl,rfl,trivial⟩,rfl,rfl,trivial⟩
   intro j ⟨hj,hinvj⟩
   rcases aB j (t.edges.take k).length with hjl|hjl
   ·obtain⟨o,ho⟩:∃o,(t.edges.take k)[j]? =some o:=⟨_,aD hjl⟩
    have ho2:=(hget j o).1 ho
    iterate 40 (all_goals((conv=>whnf);first|(with_reducible first|refine in_map hjl ?_|refine ix_map ho ?_|refine ctOvl r.pf o.pf ?_)|refine zG ?_|apply zA|(apply zI;intro h)|exact zT|skip))
    all_goals first
     |(refine fin_f hK (topB_false fun hn=>?_)
       exact hn.apart k r hr j o ho2.1 ho2.2 ⟨by assumption,by assumption,by assumption⟩)
     |(refine⟨j+1,⟨by omega,all_succ ho ?_ hinvj⟩,by omega,⟨[(0,0),(1,1)],rfl,⟨rfl,rfl,rfl,rfl,rfl,rfl,rfl,rfl,trivial⟩,rfl,rfl,trivial⟩⟩
       rintro⟨q1,q2,q3⟩
       simp_all)
   have hap:=before_all hjl hinvj
   iterate 20 (all_goals((conv=>whnf);first|refine zG ?_|apply zA|(apply zI;intro h)|exact zT|skip))
   exact⟨k+1,⟨by omega,all_succ hr ⟨⟨edgeB_iff.1 zp,by assumption⟩,fun j o h1 h2=>hap j o ((hget j o).2 ⟨h1,h2⟩)⟩ hinv⟩,by omega,⟨[(0,0)],rfl,⟨rfl,rfl,rfl,rfl,trivial⟩,rfl,trivial⟩⟩
  ·exact fin_f hK (topB_false fun hn=>h (hn.edge k r hr).2)
  ·exact fin_f hK (topB_false fun hn=>by rw[edgeB_true (hn.edge k r hr).1]at h;cases h)
 have hedge:=before_all hkl hinv
 iterate 20 (all_goals((conv=>whnf);first|refine zG ?_|apply zA|(apply zI;intro h)|exact zT|skip))
 refine Lp.intro Nat (fun k=>⟨1,[(0,boxT t)],[(1,.op 0 0),(154,.lst (t.pools.map encP)),(155,.v (.int .i64 (t.pools.map encP).length)),(156,.v (.int .i64 k))]⟩)
  (fun k=>k<=t.pools.length/\∀(i:Nat) p,i<k->t.pools[i]? =some p->p.okP/\∀(j:Nat) q,j<i->t.pools[j]? =some q->p.meet q=false) (fun k=>t.pools.length-k) 0 ?_ ?_ ?_
 ·exact⟨aH _,fun i y hi=>absurd hi (aZ _)⟩
 ·exact⟨[(0,0)],rfl,⟨rfl,rfl,rfl,rfl,trivial⟩,rfl,trivial⟩
 intro k ⟨hk,hinv⟩
 rcases aB k t.pools.length with hkl|hkl
 ·obtain⟨r,hr⟩:=gex hkl
  have hlen:(t.pools.take k).length=k:=by simp;omega
  have hget:∀(j:Nat) o,(t.pools.take k)[j]? =some o↔j<k/\t.pools[j]? =some o:=fun j o=>take_get
  iterate 40 (all_goals((conv=>whnf);first|(with_reducible first|refine in_map hkl ?_|refine ix_map hr ?_|refine cpVal r ?_|refine sb_take zo ?_|refine canyPf _ r zo ?_)|refine zG ?_|apply zA|(apply zI;intro h)|exact zT|skip))
  ·refine fin_f hK (topB_false fun hn=>?_)
   obtain⟨q,hq1,hq2⟩:=dM.1 h
   obtain⟨j,hj⟩:=bM.1 hq1
   have hj2:=(hget j q).1 hj
   rw[(hn.pool k r hr).2 j q hj2.1 hj2.2]at hq2;cases hq2
  ·refine⟨k+1,⟨by omega,all_succ hr ⟨by assumption,fun j q h1 h2=>?_⟩ hinv⟩,by omega,⟨[(0,0)],rfl,⟨rfl,rfl,rfl,rfl,trivial⟩,rfl,trivial⟩⟩
   rw[eZ]at h
   have:=h q (aF ((hget j q).2 ⟨h1,h2⟩))
   simpa using this
  ·exact fin_f hK (topB_false fun hn=>h (hn.pool k r hr).1)
 have hpool:=before_all hkl hinv
 iterate 20 (all_goals((conv=>whnf);first|refine zG ?_|apply zA|(apply zI;intro h)|exact zT|skip))
 exact fin_t hK (topB_true ⟨d0,d1,l1,e1,p1,t0,t1,hdev,hlink,fun i e he=>(hedge i e he).1,fun i e he=>(hedge i e he).2,hpool⟩)
theorem cuMeets(p:Pf)(l:List Pf)(hl:l.length<1000000){K:KT}(hK:K (.sb (l.any fun q=>p.meet q)) []):ACall Tryz.prog 212 [encP p,.lst (l.map encP)] [] K:=by
 refine ACall.bool (ofuMeets rfl rfl ?_)
 iterate 4 (all_goals((conv=>whnf);first|refine zG ?_|apply zA|(apply zI;intro h)|exact zT|skip))
 refine Lp.intro Nat (fun k=>⟨1,[(0,.box [.v (.int .u32 p.addr),.v (.int .i64 p.bits)])],[(1,.lst (l.map encP)),(2,.op 0 0),(5,.v (.int .i64 k))]⟩) (fun k=>k<=l.length/\∀(i:Nat) q,i<k->l[i]? =some q->p.meet q=false) (fun k=>l.length-k) 0 ?_ ?_ ?_
 ·exact⟨aH _,fun i y hi=>absurd hi (aZ _)⟩
 ·exact⟨[(0,0)],rfl,⟨rfl,rfl,rfl,trivial⟩,rfl,trivial⟩
 intro k ⟨hk,hinv⟩
 rcases aB k l.length with hkl|hkl
 ·obtain⟨r,hr⟩:=gex hkl
  iterate 20 (all_goals((conv=>whnf);first|(with_reducible first|refine in_map hkl ?_|refine ix_map hr ?_|refine crMeet p r ?_)|refine zG ?_|apply zA|(apply zI;intro h)|exact zT|skip))
  ·exact fin_t hK (dM.2 ⟨r,aF hr,h⟩)
  ·exact⟨k+1,⟨by omega,all_succ hr h hinv⟩,by omega,⟨[(0,0)],rfl,⟨rfl,rfl,rfl,trivial⟩,rfl,trivial⟩⟩
 ·have hall:=before_all hkl hinv
  iterate 12 (all_goals((conv=>whnf);first|refine zG ?_|apply zA|(apply zI;intro h)|exact zT|skip))
  refine fin_f hK (eZ.2 fun q hq=>?_)
  obtain⟨j,hj⟩:=bM.1 hq
  rw[hall j q hj];simp
def fixed(l:List Ed):List Pf:=(l.filter fun e=> !e.pl).map (·.pf)
theorem fixed_succ{l:List Ed}{k:Nat}{e:Ed}(h:l[k]? =some e):fixed (l.take (k+1))=fixed (l.take k)++(if e.pl then []else [e.pf]):=by
 unfold fixed
 rw[bJ,h,dB,aQ]
 cases he:e.pl<;>simp[he]
theorem fixed_len(l:List Ed):(fixed l).length<=l.length:=by
 unfold fixed
 rw[aA]
 exact dL _ _
theorem cuFixed(t:Tp)(hl:t.edges.length<1000000){K:KT}(hK:K (.lst ((fixed t.edges).map encP)) []):ACall Tryz.prog 119 [encT t] [] K:=by
 refine ofuFixed rfl rfl ?_
 iterate 8 (all_goals((conv=>whnf);first|refine zG ?_|apply zA|(apply zI;intro h)|exact zT|skip))
 refine Lp.intro Nat (fun k=>⟨2,[(1,.arr 2 ((fixed (t.edges.take k)).map encP)),(0,boxT t)],[(1,.op 0 0),(3,.os 1 2 0 (fixed (t.edges.take k)).length),(4,.v (.int .i64 k))]⟩) (fun k=>k<=t.edges.length) (fun k=>t.edges.length-k) 0 ?_ ?_ ?_
 ·exact aH _
 ·exact⟨[(0,0),(1,1)],rfl,⟨rfl,rfl,rfl,trivial⟩,rfl,rfl,trivial⟩
 intro k hk
 rcases aB k t.edges.length with hkl|hkl
 ·obtain⟨r,hr⟩:=gex hkl
  have hs:=fixed_succ hr
  have hf:=fixed_len (t.edges.take k)
  simp only[bI]at hf
  iterate 30 (all_goals((conv=>whnf);first|(with_reducible first|refine in_map hkl ?_|refine ix_map hr ?_)|refine zG ?_|apply zA|(apply zI;intro h)|exact zT|skip))
  ·refine⟨k+1,by omega,by omega,?_⟩
   rw[hs,h,aG rfl,bD]
   exact⟨[(0,0),(1,1)],rfl,⟨rfl,rfl,rfl,trivial⟩,rfl,rfl,trivial⟩
  ·refine⟨k+1,by omega,by omega,?_⟩
   rw[hs,h,aE zx,aQ,aC]
   exact⟨[(0,0),(1,3)],rfl,⟨rfl,rfl,rfl,trivial⟩,rfl,rfl,trivial⟩
 ·iterate 12 (all_goals((conv=>whnf);first|refine zG ?_|apply zA|(apply zI;intro h)|exact zT|skip))
  rw[aX hkl]
  exact hK
theorem cuDevs(l:List Dv){K:KT}(hK:∀b,(b=true↔(1<=l.length/\l.length<=12)/\∀(i:Nat) d,l[i]? =some d->devOk d/\devIx l d.name=i)->K (.sb b) []):ACall Tryz.prog 210 [.lst (l.map encD)] [] K:=by
 refine ACall.bool (ofuDevs rfl rfl ?_)
 iterate 16 (all_goals((conv=>whnf);first|refine zG ?_|apply zA|(apply zI;intro h)|exact zT|skip))
 all_goals first
  |(refine fin_f (hK false (iff_of_false zx fun hn=>?_)) rfl
    have:=hn.1
    simp only[aA]at*
    omega)
  |skip
 obtain⟨d0,d1⟩:1<=l.length/\l.length<=12:=by
  simp only[aA]at*
  omega
 refine Lp.intro Nat (fun k=>⟨0,[],[(0,.lst (l.map encD)),(3,.v (.int .i64 k))]⟩)
  (fun k=>k<=l.length/\∀(i:Nat) d,i<k->l[i]? =some d->devOk d/\devIx l d.name=i) (fun k=>l.length-k) 0 ?_ ?_ ?_
 ·exact⟨aH _,fun i y hi=>absurd hi (aZ _)⟩
 ·exact⟨[],rfl,⟨rfl,rfl,trivial⟩,trivial⟩
 intro k ⟨hk,hinv⟩
 rcases aB k l.length with hkl|hkl
 ·obtain⟨r,hr⟩:=gex hkl
  have hdv:∀(n:ByteArray) (K:AV->List Vm.Obj->Prop),K (.v (.int .i64 (devIx l n))) []->ACall Tryz.prog 278 [.agg [.lst (l.map encD),.lst [],.lst [],.lst [],.v (.int .i64 0)],.v (.string n)] [] K:=
   fun n K h=>cuDev ⟨l,[],[],[],0⟩ n (by show l.length<1000000;omega) h
  iterate 90 (all_goals((conv=>whnf);first|(with_reducible first|refine in_map hkl ?_|refine ix_map hr ?_|refine crName _ ?_|refine hdv _ _ ?_)|refine zG ?_|apply zA|(apply zI;intro h)|exact zT|skip))
  all_goals first
   |(refine fin_f (hK false (iff_of_false zx fun hn=>?_)) rfl
     obtain⟨⟨n1,n2,n3,n4⟩,n5⟩:=hn.2 k r hr
     first|omega|exact nameB_not zp n1|exact n4.elim (fun n6=>by simp_all[sEq]) (fun n6=>nameB_not zp n6)|(exact absurd n5 zp))
   |(refine⟨k+1,⟨by omega,all_succ hr ⟨⟨nameB_iff.1 zp,by omega,by omega,?_⟩,by assumption⟩ hinv⟩,by omega,⟨[],rfl,⟨rfl,rfl,trivial⟩,trivial⟩⟩
     first|exact .inr (nameB_iff.1 zp)|(left;simp_all[sEq];done))
 ·have hall:=before_all hkl hinv
  iterate 12 (all_goals((conv=>whnf);first|refine zG ?_|apply zA|(apply zI;intro h)|exact zT|skip))
  exact fin_t (hK true (iff_of_true rfl ⟨⟨d0,d1⟩,hall⟩)) rfl
theorem pw_iff{α:Type}{R:α->α->Prop}{l:List α}:l.Pairwise R↔∀(i:Nat) x,l[i]? =some x->∀(j:Nat) y,j<i->l[j]? =some y->R y x:=by
 rw[cO]
 constructor
 ·intro h i x hx j y hj hy
  obtain⟨h1,rfl⟩:=aP.1 hx
  obtain⟨h2,rfl⟩:=aP.1 hy
  exact h j i h2 h1 hj
 ·intro h i j hi hj hij
  exact h j _ (aD hj) i _ hij (aD hi)
theorem fixed_apart{l:List Ed}:(∀(i:Nat) p,(fixed l)[i]? =some p->∀(j:Nat) q,j<i->(fixed l)[j]? =some q->p.meet q=false)↔∀(i:Nat) e,l[i]? =some e->∀(j:Nat) o,j<i->l[j]? =some o->apartE e o:=by
 rw[<-pw_iff (R:=fun q p:Pf=>p.meet q=false),<-pw_iff (R:=fun o e:Ed=>apartE e o),fixed,fA,List.pairwise_filter]
 constructor
 ·refine List.Pairwise.imp fun {o e} h=>?_
  rintro⟨h1,h2,h3⟩
  rw[h (by simp[h2]) (by simp[h1])]at h3;cases h3
 ·refine List.Pairwise.imp fun {o e} h=>?_
  intro h1 h2
  cases hm:e.pf.meet o.pf with
  |false=>rfl
  |true=>exact absurd ⟨by simpa using h2,by simpa using h1,hm⟩ h
theorem cuVal(t:Tp){K:KT}(hK:K (.sb (topB t)) []):ACall Tryz.prog 118 [encT t] [] K:=by
 refine ACall.bool (ofuVal rfl rfl ?_)
 iterate 6 (all_goals((conv=>whnf);first|refine zG ?_|apply zA|(apply zI;intro h)|exact zT|skip))
 refine cuDevs t.devs fun db hdb=>?_
 iterate 50 (all_goals((conv=>whnf);first|refine zG ?_|apply zA|(apply zI;intro h)|exact zT|skip))
 all_goals first
  |(exact fin_f hK (topB_false fun hn=>by
    have h0:=hdb.2 ⟨⟨hn.d0,hn.d1⟩,hn.dev⟩
    have:=hn.l1;have:=hn.e1;have:=hn.p1;have:=hn.t0;have:=hn.t1
    (try simp only[aA]at*)
    first|omega|(rw[h0]at h;cases h)))
  |skip
 obtain⟨l1,e1,p1,t0,t1⟩:t.links.length<=24/\t.edges.length<=12/\t.pools.length<=8/\0<=t.tol/\t.tol<=2:=by
  simp only[aA]at*
  omega
 have hdb':=hdb.1 zp
 refine Lp.intro Nat (fun k=>⟨1,[(0,boxT t)],[(1,.op 0 0),(3,.v (.int .i64 k))]⟩)
  (fun k=>k<=t.links.length/\∀(i:Nat) d,i<k->t.links[i]? =some d->linkOk t.devs.length d) (fun k=>t.links.length-k) 0 ?_ ?_ ?_
 ·exact⟨aH _,fun i y hi=>absurd hi (aZ _)⟩
 ·exact⟨[(0,0)],rfl,⟨rfl,rfl,trivial⟩,rfl,trivial⟩
 intro k ⟨hk,hinv⟩
 rcases aB k t.links.length with hkl|hkl
 ·obtain⟨r,hr⟩:=gex hkl
  iterate 50 (all_goals((conv=>whnf);first|(with_reducible first|refine in_map hkl ?_|refine ix_map hr ?_)|refine zG ?_|apply zA|(apply zI;intro h)|exact zT|skip))
  all_goals first
   |(refine fin_f hK (topB_false fun hn=>?_)
     obtain⟨n1,n2,n3,n4,n5⟩:=hn.link k r hr
     simp only[aA]at*
     omega)
   |(refine⟨k+1,⟨by omega,all_succ hr ?_ hinv⟩,by omega,⟨[(0,0)],rfl,⟨rfl,rfl,trivial⟩,rfl,trivial⟩⟩
     unfold linkOk
     simp only[aA]at*
     omega)
 have hlink:=before_all hkl hinv
 iterate 20 (all_goals((conv=>whnf);first|refine zG ?_|apply zA|(apply zI;intro h)|exact zT|skip))
 refine Lp.intro Nat (fun k=>⟨1,[(0,boxT t)],[(1,.op 0 0),(5,.v (.int .i64 k))]⟩)
  (fun k=>k<=t.edges.length/\∀(i:Nat) e,i<k->t.edges[i]? =some e->edgeOk t.devs.length e/\edgeIx t.edges e.name=i) (fun k=>t.edges.length-k) 0 ?_ ?_ ?_
 ·exact⟨aH _,fun i y hi=>absurd hi (aZ _)⟩
 ·exact⟨[(0,0)],rfl,⟨rfl,rfl,trivial⟩,rfl,trivial⟩
 intro k ⟨hk,hinv⟩
 rcases aB k t.edges.length with hkl|hkl
 ·obtain⟨r,hr⟩:=gex hkl
  have hed:∀(K:AV->List Vm.Obj->Prop),K (.sb (edgeB t.devs.length r)) []->ACall Tryz.prog 211 [encE r,.v (.int .i64 (t.devs.map encD).length)] [] K:=fun K h=>cuEdgeOk r _ (by rw[aA];exact h)
  iterate 40 (all_goals((conv=>whnf);first|(with_reducible first|refine in_map hkl ?_|refine ix_map hr ?_|refine hed _ ?_|refine cuEdge t _ zo ?_)|refine zG ?_|apply zA|(apply zI;intro h)|exact zT|skip))
  ·exact⟨k+1,⟨by omega,all_succ hr ⟨edgeB_iff.1 zp,h⟩ hinv⟩,by omega,⟨[(0,0)],rfl,⟨rfl,rfl,trivial⟩,rfl,trivial⟩⟩
  ·exact fin_f hK (topB_false fun hn=>h (hn.edge k r hr).2)
  ·exact fin_f hK (topB_false fun hn=>by rw[edgeB_true (hn.edge k r hr).1]at h;cases h)
 have hedge:=before_all hkl hinv
 have hfl:=fixed_len t.edges
 iterate 20 (all_goals((conv=>whnf);first|(with_reducible refine cuFixed t zo ?_)|refine zG ?_|apply zA|(apply zI;intro h)|exact zT|skip))
 refine Lp.intro Nat (fun k=>⟨1,[(0,boxT t)],[(1,.op 0 0),(6,.lst ((fixed t.edges).map encP)),(7,.v (.int .i64 k))]⟩)
  (fun k=>k<=(fixed t.edges).length/\∀(i:Nat) p,i<k->(fixed t.edges)[i]? =some p->∀(j:Nat) q,j<i->(fixed t.edges)[j]? =some q->p.meet q=false) (fun k=>(fixed t.edges).length-k) 0 ?_ ?_ ?_
 ·exact⟨aH _,fun i y hi=>absurd hi (aZ _)⟩
 ·exact⟨[(0,0)],rfl,⟨rfl,rfl,rfl,trivial⟩,rfl,trivial⟩
 intro k ⟨hk,hinv⟩
 rcases aB k (fixed t.edges).length with hkl|hkl
 ·obtain⟨r,hr⟩:∃r,(fixed t.edges)[k]? =some r:=⟨_,aD hkl⟩
  have hlen:((fixed t.edges).take k).length=k:=by simp;omega
  iterate 40 (all_goals((conv=>whnf);first|(with_reducible first|refine in_map hkl ?_|refine ix_map hr ?_|refine sb_take zo ?_|refine cuMeets r _ zo ?_)|refine zG ?_|apply zA|(apply zI;intro h)|exact zT|skip))
  ·refine fin_f hK (topB_false fun hn=>?_)
   obtain⟨q,hq1,hq2⟩:=dM.1 h
   obtain⟨j,hj⟩:=bM.1 hq1
   have hj2:=take_get.1 hj
   rw[fixed_apart.2 hn.apart k r hr j q hj2.1 hj2.2]at hq2;cases hq2
  ·refine⟨k+1,⟨by omega,all_succ hr (fun j q h1 h2=>?_) hinv⟩,by omega,⟨[(0,0)],rfl,⟨rfl,rfl,rfl,trivial⟩,rfl,trivial⟩⟩
   rw[eZ]at h
   have:=h q (aF (take_get.2 ⟨h1,h2⟩))
   simpa using this
 have hfix:=fixed_apart.1 (before_all hkl hinv)
 iterate 20 (all_goals((conv=>whnf);first|refine zG ?_|apply zA|(apply zI;intro h)|exact zT|skip))
 refine Lp.intro Nat (fun k=>⟨1,[(0,boxT t)],[(1,.op 0 0),(8,.v (.int .i64 k))]⟩)
  (fun k=>k<=t.pools.length/\∀(i:Nat) p,i<k->t.pools[i]? =some p->p.okP/\∀(j:Nat) q,j<i->t.pools[j]? =some q->p.meet q=false) (fun k=>t.pools.length-k) 0 ?_ ?_ ?_
 ·exact⟨aH _,fun i y hi=>absurd hi (aZ _)⟩
 ·exact⟨[(0,0)],rfl,⟨rfl,rfl,trivial⟩,rfl,trivial⟩
 intro k ⟨hk,hinv⟩
 rcases aB k t.pools.length with hkl|hkl
 ·obtain⟨r,hr⟩:=gex hkl
  have hlen:(t.pools.take k).length=k:=by simp;omega
  iterate 40 (all_goals((conv=>whnf);first|(with_reducible first|refine in_map hkl ?_|refine ix_map hr ?_|refine crVal r ?_|refine sb_take zo ?_|refine cuMeets r _ zo ?_)|refine zG ?_|apply zA|(apply zI;intro h)|exact zT|skip))
  ·refine fin_f hK (topB_false fun hn=>?_)
   obtain⟨q,hq1,hq2⟩:=dM.1 h
   obtain⟨j,hj⟩:=bM.1 hq1
   have hj2:=take_get.1 hj
   rw[(hn.pool k r hr).2 j q hj2.1 hj2.2]at hq2;cases hq2
  ·refine⟨k+1,⟨by omega,all_succ hr ⟨by assumption,fun j q h1 h2=>?_⟩ hinv⟩,by omega,⟨[(0,0)],rfl,⟨rfl,rfl,trivial⟩,rfl,trivial⟩⟩
   rw[eZ]at h
   have:=h q (aF (take_get.2 ⟨h1,h2⟩))
   simpa using this
  ·exact fin_f hK (topB_false fun hn=>h (hn.pool k r hr).1)
 have hpool:=before_all hkl hinv
 iterate 20 (all_goals((conv=>whnf);first|refine zG ?_|apply zA|(apply zI;intro h)|exact zT|skip))
 exact fin_t hK (topB_true ⟨hdb'.1.1,hdb'.1.2,l1,e1,p1,t0,t1,hdb'.2,hlink,hedge,hfix,hpool⟩)
noncomputable def gnHuge:Ctx:={N:=25}
noncomputable def bnHuge:Code:=bdy Tryz.f17
abbrev ofnHuge:=@ofC Tryz.prog gnHuge 17 Tryz.f17 bnHuge Tryz.func17 zk zk zk zk
noncomputable def gnSub:Ctx:={N:=14}
noncomputable def bnSub:Code:=bdy Tryz.f105
abbrev ofnSub:=@ofC Tryz.prog gnSub 105 Tryz.f105 bnSub Tryz.func105 zk zk zk zk
noncomputable def gnTop:Ctx:={N:=154,np:=1,own:=at1 16 (true) (fun _=>false),plan:=at1 6 (some (.one 1 true (.one 5 true (.alt 0 (.one 2 true (.wch 3 (.alt 4 (.alt 6 (ln [15,17,19,20,22]) (.alt 10 (ln [12,15,17,19,22]) (.stop))) (.alt 6 (.alt 4 (ln [15,17,19,20,22]) (.alt 10 (ln [8,15,17,19,22]) (.stop))) (.alt 10 (.alt 4 (ln [12,15,17,19,22]) (.alt 6 (ln [8,15,17,19,22]) (.stop))) (.stop)))))) (.alt 4 (.alt 0 (.one 2 true (.wch 3 (.alt 6 (ln [15,17,19,20,22]) (.alt 10 (ln [12,15,17,19,22]) (.stop))))) (.alt 6 (.one 7 true (.one 8 true (.alt 0 (ln [5,7,19,20,22]) (.alt 10 (ln [0,5,7,19,22]) (.stop))))) (.alt 10 (.alt 0 (.one 2 true (.wch 3 (ln [12,15,17,19,22]))) (.alt 6 (ln [15,17,0,5,7,19,22]) (.stop))) (.stop)))) (.alt 6 (.alt 0 (.one 2 true (.one 3 true (.alt 4 (ln [15,17,19,20,22]) (.alt 10 (ln [8,15,17,19,22]) (.stop))))) (.alt 4 (.one 7 true (.one 8 true (.alt 0 (ln [5,7,19,20,22]) (.alt 10 (ln [0,5,7,19,22]) (.stop))))) (.alt 10 (.alt 0 (ln [5,7,8,15,17,19,22]) (.alt 4 (ln [15,17,0,5,7,19,22]) (.stop))) (.stop)))) (.alt 10 (.alt 0 (.one 2 true (.wch 3 (.alt 4 (ln [12,15,17,19,22]) (.alt 6 (ln [8,15,17,19,22]) (.stop))))) (.alt 4 (.alt 0 (.one 2 true (.wch 3 (ln [12,15,17,19,22]))) (.alt 6 (ln [15,17,0,5,7,19,22]) (.stop))) (.alt 6 (.alt 0 (ln [5,7,8,15,17,19,22]) (.alt 4 (ln [15,17,0,5,7,19,22]) (.stop))) (.stop)))) (.stop)))))))) (at1 11 (some (.one 0 true (.one 2 true (.one 3 true (.one 5 true (.one 7 true (.wch 1 (.alt 4 (.alt 6 (ln [16,19,21,23,24,26,29,30]) (.alt 8 (ln [12,19,21,23,24,26,29,30]) (.stop))) (.alt 6 (ln [8,16,19,21,23,24,26,29,30]) (.stop)))))))))) (at1 16 (some (.one 0 true (.one 2 true (.one 3 true (.one 5 true (.one 7 true (.wch 1 (.alt 4 (.alt 6 (ln [16,19,21,23,24,26,29,30]) (.alt 8 (ln [12,19,21,23,24,26,29,30]) (.stop))) (.alt 6 (ln [8,16,19,21,23,24,26,29,30]) (.stop)))))))))) (at1 21 (some (.one 0 true (.one 3 true (.one 6 true (.one 7 true (.one 10 true (.one 14 true (.wch 1 (.alt 2 (.one 4 true (.wch 5 (.alt 8 (.alt 9 (ln [22,25,27,30,33,34,36,39,40]) (.alt 11 (.alt 9 (ln [25,27,30,33,34,36,39,40]) (.alt 15 (ln [18,25,27,33,34,36,39,40]) (.stop))) (.stop))) (.alt 9 (ln [16,22,25,27,30,33,34,36,39,40]) (.stop))))) (.alt 8 (.alt 2 (.one 4 true (.wch 5 (.alt 9 (ln [22,25,27,30,33,34,36,39,40]) (.alt 11 (.alt 9 (ln [25,27,30,33,34,36,39,40]) (.alt 15 (ln [18,25,27,33,34,36,39,40]) (.stop))) (.stop))))) (.alt 9 (.alt 2 (.one 4 true (.wch 5 (ln [22,25,27,30,33,34,36,39,40]))) (.alt 11 (.one 12 true (.one 13 true (.alt 2 (ln [9,11,30,33,34,36,39,40]) (.alt 15 (ln [4,9,11,33,34,36,39,40]) (.stop))))) (.stop))) (.alt 11 (.alt 2 (.one 4 true (.one 5 true (.alt 9 (ln [25,27,30,33,34,36,39,40]) (.alt 15 (ln [18,25,27,33,34,36,39,40]) (.stop))))) (.alt 9 (.one 12 true (.one 13 true (.alt 2 (ln [9,11,30,33,34,36,39,40]) (.alt 15 (ln [4,9,11,33,34,36,39,40]) (.stop))))) (.alt 15 (.alt 2 (ln [9,11,18,25,27,33,34,36,39,40]) (.alt 9 (ln [25,27,4,9,11,33,34,36,39,40]) (.stop))) (.stop)))) (.stop)))) (.alt 9 (.alt 2 (.one 4 true (.wch 5 (ln [16,22,25,27,30,33,34,36,39,40]))) (.alt 8 (.alt 2 (.one 4 true (.wch 5 (ln [22,25,27,30,33,34,36,39,40]))) (.alt 11 (.one 12 true (.one 13 true (.alt 2 (ln [9,11,30,33,34,36,39,40]) (.alt 15 (ln [4,9,11,33,34,36,39,40]) (.stop))))) (.stop))) (.stop))) (.stop)))))))))))) (fun _=>none)))),hints:=at1 2 ([.virtB 5 0 5,.virtB 5 1 3,.virtB 5 2 6,.virtB 5 3 2]) (fun _=>[]),cut:=at1 7 (true) (at1 17 (true) (at1 20 (true) (fun _=>false))),res:=true}
noncomputable def bnTop:Code:=bdy Tryz.f43
abbrev ofnTop:=@ofC Tryz.prog gnTop 43 Tryz.f43 bnTop Tryz.func43 zk zk zk zk
noncomputable def gnPla:Ctx:={N:=47,np:=1,own:=at1 16 (true) (at1 43 (true) (fun _=>false)),plan:=at1 8 (some (.one 0 true (.one 2 true (.one 3 true (.one 5 true (.one 7 true (.wch 1 (.alt 4 (.alt 6 (ln [16,19,21,23,25,27,28,31,33,34]) (.alt 8 (ln [12,19,21,23,25,27,28,31,33,34]) (.stop))) (.alt 6 (.alt 4 (ln [16,19,21,23,25,27,28,31,33,34]) (.alt 8 (.one 9 true (.one 10 true (.one 11 true (.one 12 true (.one 13 true (.alt 4 (ln [28,31,33,34]) (.alt 14 (ln [9,31,33,34]) (.stop)))))))) (.stop))) (.alt 8 (.alt 4 (ln [12,19,21,23,25,27,28,31,33,34]) (.alt 6 (.one 9 true (.one 10 true (.one 11 true (.one 12 true (.one 13 true (.alt 4 (ln [28,31,33,34]) (.alt 14 (ln [9,31,33,34]) (.stop)))))))) (.stop))) (.stop))))))))))) (fun _=>none),cut:=at1 4 (true) (at1 6 (true) (fun _=>false))}
noncomputable def bnPla:Code:=bdy Tryz.f30
abbrev ofnPla:=@ofC Tryz.prog gnPla 30 Tryz.f30 bnPla Tryz.func30 zk zk zk zk
def huge(t:Tp):Bool:=decide (6<t.devs.length)||decide (9<t.links.length)||decide (5<t.edges.length)||decide (4<t.pools.length)
theorem cnHuge(t:Tp){K:KT}(hK:K (.sb (huge t)) []):ACall Tryz.prog 17 [encT t] [] K:=by
 refine ACall.bool (ofnHuge rfl rfl ?_)
 iterate 60 (all_goals((conv=>whnf);first|refine zG ?_|apply zA|(apply zI;intro h)|exact zT|skip))
 all_goals simp only[aA]at*
 all_goals first
  |(refine fin_t hK ?_;simp only[huge,bV,aK];omega)
  |(refine fin_f hK ?_;simp only[huge,fZ,decide_eq_false_iff_not];omega)
  |(refine fin_s hK ?_;simp only[huge];rw[bG];simp only[bV,aK];omega)
theorem nNext(raw:List Int)(pos:Nat)(n:Int)(hn2:n<=9223372036854775807)(hp:pos<=raw.length)(hr:raw.length<=9223372036854775807){K:KT}
  (hK:∀(m pos':Nat),(m=0\/m<n)->pos'<=raw.length->K (.v (.int .i64 m)) [tapeO raw pos']):ACall Tryz.prog 16 [.op 0 0,.v (.int .i64 n)] [tapeO raw pos] K:=
 c13 raw pos n hn2 hp hr fun m pos' m0 m1 hp'=>by
  obtain⟨k,rfl⟩:=cP m0
  exact hK k pos' zo hp'
theorem ix_ints{xs:List AV}{i:Nat}{K:AV->Prop}(L:List Int)(n:Nat)(h:xs=L.map fun c=>.v (.int .i64 c))(hn:L.length=n)(hi:i<n)(hk:∀c,c∈L->K (.v (.int .i64 c))):Ix xs i K:=by
 subst h;subst hn
 exact ix_map (aD hi) (hk _ (dD hi))
theorem ix_strs{xs:List AV}{i:Nat}{K:AV->Prop}(L:List ByteArray)(n:Nat)(h:xs=L.map fun c=>.v (.string c))(hn:L.length=n)(hi:i<n)(hk:∀c,c∈L->K (.v (.string c))):Ix xs i K:=by
 subst h;subst hn
 exact ix_map (aD hi) (hk _ (dD hi))
theorem ix_strAt{xs:List AV}{i:Nat}{K:AV->Prop}(L:List ByteArray)(n:Nat)(h:xs=L.map fun c=>.v (.string c))(hn:L.length=n)(hi:i<n)(hk:K (.v (.string (L.getD i default)))):Ix xs i K:=by
 subst h;subst hn
 exact ix_map (aD hi) (by rw[List.getD_eq_getElem?_getD,aD hi]at hk;exact hk)
def subL:List Pf:=[⟨167772160,24,by decide,by decide⟩,⟨167772416,24,by decide,by decide⟩,⟨167772672,25,by decide,by decide⟩,⟨167772800,26,by decide,by decide⟩,⟨2886729728,16,by decide,by decide⟩,⟨3232237321,32,by decide,by decide⟩]
def noPf:Pf:=⟨0,0,by decide,by decide⟩
theorem ix_pfs{xs:List AV}{i:Nat}{K:AV->Prop}(L:List Pf)(n:Nat)(h:xs=L.map encP)(hn:L.length=n)(hi:i<n)(hk:K (encP (L.getD i noPf))):Ix xs i K:=by
 subst h;subst hn
 exact ix_map (aD hi) (by rw[List.getD_eq_getElem?_getD,aD hi]at hk;exact hk)
theorem nMod(x:Nat)(n:Int)(hx:x<n)(hn2:n<=9223372036854775807){K:KT}(hK:K (.v (.int .i64 x)) []):ACall Tryz.prog 42 [.v (.int .i64 x),.v (.int .i64 n)] [] K:=by
 refine of37 rfl rfl ?_
 (conv=>whnf)
 refine wr_u64 rfl zo zo ?_
 have m1:(x:Int).tmod n=x:=Int.tmod_eq_of_lt zo zo
 iterate 10 (all_goals((conv=>whnf);first|refine zG ?_|apply zA|(apply zI;intro h)|exact zT|skip))
 rw[m1]
 exact hK
theorem cnSub(n:Nat)(hn:n<6){K:KT}(hK:K (encP (subL.getD n noPf)) []):ACall Tryz.prog 105 [.v (.int .i64 n)] [] K:=by
 refine ofnSub rfl rfl ?_
 iterate 30 (all_goals((conv=>whnf);first|(with_reducible first|refine nMod n 6 zo zd ?_|refine in_nat hn ?_|refine ix_pfs subL 6 rfl rfl zo ?_)|refine zG ?_|apply zA|(apply zI;intro h)|exact zT|skip))
 rw[bL]
 exact hK
def rnL:List ByteArray:=[⟨#[114,49]⟩,⟨#[114,50]⟩,⟨#[114,51]⟩,⟨#[114,52]⟩,⟨#[114,53]⟩,⟨#[114,54]⟩]
def enL:List ByteArray:=[⟨#[101,49]⟩,⟨#[101,50]⟩,⟨#[101,51]⟩,⟨#[101,52]⟩,⟨#[101,53]⟩]
def clL:List ByteArray:=[⟨#[]⟩,⟨#[105,112,115]⟩,⟨#[100,108,112]⟩]
def zoL:List ByteArray:=[⟨#[108,97,110]⟩,⟨#[100,109,122]⟩,⟨#[110,101,116]⟩]
structure GDv (i:Nat) (d:Dv):Prop where
 name:d.name=rnL.getD i default
 cap:d.cap∈[4096,400,60,20,5,0]
 cls:d.cls∈clL
structure GLk (n:Nat) (l:Lk):Prop where
 a0:0<=l.a
 ab:l.a<l.b
 bn:l.b<n
 cost:l.cost∈[1,2,3,1000]
theorem GLk.mono{n k:Nat}{l:Lk}(h:GLk n l)(hk:n<=k):GLk k l:=⟨h.a0,h.ab,by have:=h.bn;omega,h.cost⟩
structure GEd (n i:Nat) (e:Ed):Prop where
 name:e.name=enL.getD i default
 d0:0<=e.dev
 d1:e.dev<n
 zone:e.zone∈zoL
 pf:e.pf=subL.getD i noPf
 pl:e.pl=false
def pool1:Pf:=⟨168296448,22,by decide,by decide⟩
def pool2:Pf:=⟨167772672,24,by decide,by decide⟩
structure GTop (t:Tp):Prop where
 d1:1<=t.devs.length
 d6:t.devs.length<=6
 dv:∀(i:Nat) d,t.devs[i]? =some d->GDv i d
 l9:t.links.length<=8
 lk:∀l,l∈t.links->GLk t.devs.length l
 e5:t.edges.length<=5
 ed:∀(i:Nat) e,t.edges[i]? =some e->GEd t.devs.length i e
 pools:t.pools=[]\/t.pools=[pool1]\/t.pools=[pool2]\/t.pools=[pool1,pool2]
 tol:t.tol∈[0,1,0,1,2]
theorem get_snoc{α:Type}{P:Nat->α->Prop}{l:List α}{x:α}(h:∀(i:Nat) y,l[i]? =some y->P i y)(hx:P l.length x):∀(i:Nat) y,(l++[x])[i]? =some y->P i y:=by
 intro i y hy
 rw[List.getElem?_append]at hy
 split at hy
 ·exact h i y hy
 ·rename_i hl
  have:i-l.length=0:=by
   rcases aB (i-l.length) 1 with h1|h1
   ·omega
   ·rw[bN (by simpa using h1)]at hy;cases hy
  rw[this]at hy
  simp at hy
  subst hy
  rw[show i=l.length by omega]
  exact hx
noncomputable abbrev boxX(d l e p:Nat)(tol:Int):Vm.Obj:=.box [.os 3 5 0 d,.os 4 3 0 l,.os 5 6 0 e,.os 6 2 0 p,.v (.int .i64 tol)]
noncomputable abbrev boxN:Vm.Obj:=.box [.nils,.nils,.nils,.nils,.v (.int .i64 0)]
noncomputable abbrev hpX(raw:List Int)(pos:Nat)(d:List Dv)(l:List Lk)(e:List Ed)(p:List Pf)(tol:Int):Hp:=
 [(0,tapeO raw pos),(1,boxN),(2,boxX d.length l.length e.length p.length tol),(3,.arr 5 (d.map encD)),(4,.arr 3 (l.map encL)),(5,.arr 6 (e.map encE)),(6,.arr 2 (p.map encP))]
theorem cnTop(raw:List Int)(pos:Nat)(n0:Nat)(hn0:n0<=6)(hp:pos<=raw.length)(hr:raw.length<=9223372036854775807){K:KT}
  (hK:∀(t:Tp) (pos':Nat),GTop t->t.devs.length<=max n0 1->pos'<=raw.length->K (.agg [.os 1 5 0 t.devs.length,.os 2 3 0 t.links.length,.os 3 6 0 t.edges.length,.os 4 2 0 t.pools.length,.v (.int .i64 t.tol)]) [tapeO raw pos',.arr 5 (t.devs.map encD),.arr 3 (t.links.map encL),.arr 6 (t.edges.map encE),.arr 2 (t.pools.map encP)]):
  ACall Tryz.prog 43 [.op 0 0,.v (.int .i64 n0)] [tapeO raw pos] K:=by
 refine ofnTop rfl rfl ?_
 iterate 20 (all_goals((conv=>whnf);first|(with_reducible refine nNext raw _ _ zo zp hr fun m p1 hm hp1=>?_)|refine zG ?_|apply zA|(apply zI;intro h)|exact zT|skip))
 have hm5:m<=5/\(m:Int)+1<=max n0 1:=by omega
 refine Lp.intro (Nat×List Dv×List Lk) (fun g=>⟨7,hpX raw g.1 g.2.1 g.2.2 [] [] 0,[(0,.op 0 0),(1,.v (.int .i64 (1+(m:Int)))),(4,.op 1 0),(5,.op 2 0),(6,.v (.int .i64 g.2.1.length))]⟩)
  (fun g=>g.1<=raw.length/\g.2.1.length<=1+m/\(∀(i:Nat) d,g.2.1[i]? =some d->GDv i d)/\g.2.2.length<=g.2.1.length-1/\∀l,l∈g.2.2->GLk g.2.1.length l) (fun g=>1+m-g.2.1.length) (p1,[],[]) ?_ ?_ ?_
 ·exact⟨hp1,aH _,fun i d h=>by simp at h,aH _,fun l h=>by simp at h⟩
 ·(exact leA)
 ·rintro⟨p1,devs,links⟩ ⟨hp1,i1,i2,i3,i4⟩
  simp only at hp1 i1 i2 i3 i4⊢
  rcases aB devs.length (1+m)with hlt|hge
  ·iterate 8 (all_goals((conv=>whnf);first|refine zG ?_|apply zA|(apply zI;intro h)|exact zT|skip))
   refine Jn.intro (Nat×Int) (fun g=>⟨8,(7,.box [.v (.string (rnL.getD (0+devs.length) default)),.v (.int .i64 g.2),.sb false,.sb false,.v (.string ⟨#[]⟩)])::hpX raw g.1 devs links [] [] 0,[(0,.op 0 0),(1,.v (.int .i64 (1+(m:Int)))),(4,.op 1 0),(5,.op 2 0),(6,.v (.int .i64 devs.length)),(7,.op 7 0)]⟩)
    (fun g=>g.1<=raw.length/\g.2∈[4096,400,60,20,5,0]) ?_ ?_
   ·(repeat' ((conv=>whnf);first|(with_reducible first|refine nNext raw _ _ zo zp hr fun m1 p1 hm1 hp1=>?_|refine in_nat zo ?_|refine ix_strAt rnL 6 rfl rfl zo ?_|refine ix_ints [4096,400,60,20,5,0] 6 rfl rfl zo fun cap hcap=>?_)|refine zG ?_|apply zA|(apply zI;intro h)|exact zT));(all_goals conv=>whnf)
    all_goals
     refine⟨(p1,cap),⟨hp1,hcap⟩,?_⟩
     (exact leA)
   ·rintro⟨p1,cap⟩ ⟨hp1,hcap⟩
    simp only at hp1 hcap⊢
    (repeat' ((conv=>whnf);first|(with_reducible first|refine nNext raw _ _ zo zp hr fun m1 p1 hm1 hp1=>?_|refine in_nat zo ?_|refine ix_strs clL 3 rfl rfl zo fun cls hcls=>?_|refine ix_ints [1,2,3,1000] 4 rfl rfl zo fun cost hcost=>?_)|refine zG ?_|apply zA|(apply zI;intro h)|exact zT));(all_goals conv=>whnf)
    all_goals first
     |(rename_i x1 y1 z1 w1 x2 y2 z2 w2 x3 y3 z3 w3 x4 y4 z4 w4
       refine⟨(p1,devs++[⟨rnL.getD (0+devs.length) default,cap,decide ((x1:Int)=1),decide ((x2:Int)=1),cls⟩],links++[⟨x4,devs.length,cost⟩]),⟨hp1,?_,?_,?_,?_⟩,?_,?_⟩
       ·simp only[aC,aJ,aO];omega
       ·exact get_snoc i2 ⟨by rw[bL],hcap,hcls⟩
       ·simp only[aC,aJ,aO];omega
       ·intro l hl
        simp only[aC,aJ,aO]
        rcases aS.1 hl with hl|hl
        ·exact(i4 l hl).mono zo
        ·simp only[aR]at hl
         subst hl
         exact⟨by simp only;omega,by simp only;omega,by simp only;omega,hcost⟩
       ·simp only[aC,aJ,aO];omega
       ·simp only[hpX,aQ,aC,aU,bF,aJ,aO]
        (exact leA))
     |(rename_i x1 y1 z1 w1 x2 y2 z2 w2
       refine⟨(p1,devs++[⟨rnL.getD (0+devs.length) default,cap,decide ((x1:Int)=1),decide ((x2:Int)=1),cls⟩],links),⟨hp1,?_,?_,?_,?_⟩,?_,?_⟩
       ·simp only[aC,aJ,aO];omega
       ·exact get_snoc i2 ⟨by rw[bL],hcap,hcls⟩
       ·simp only[aC,aJ,aO];omega
       ·intro l hl
        simp only[aC,aJ,aO]
        exact(i4 l hl).mono zo
       ·simp only[aC,aJ,aO];omega
       ·simp only[hpX,aQ,aC,aU,bF,aJ,aO]
        (exact leA))
  ·have hD:devs.length=1+m:=by omega
   (repeat' ((conv=>whnf);first|refine zG ?_|apply zA|(apply zI;intro h)|exact zT));(all_goals conv=>whnf)
   refine Jn.intro (Nat×List Lk) (fun g=>⟨7,hpX raw g.1 devs g.2 [] [] 0,[(0,.op 0 0),(1,.v (.int .i64 (1+(m:Int)))),(4,.op 1 0),(5,.op 2 0)]⟩) (fun g=>g.1<=raw.length/\g.2.length<=8/\∀l,l∈g.2->GLk devs.length l) ?_ ?_
   ·(repeat' ((conv=>whnf);first|(with_reducible refine nNext raw _ _ zo zp hr fun m2 p2 hm2 hp2=>?_)|refine zG ?_|apply zA|(apply zI;intro h)|exact zT));(all_goals conv=>whnf)
    have hm2':m2<=3:=by omega
    refine Lp.intro (Nat×Nat×List Lk) (fun g=>⟨7,hpX raw g.1 devs g.2.2 [] [] 0,[(0,.op 0 0),(1,.v (.int .i64 (1+(m:Int)))),(4,.op 1 0),(5,.op 2 0),(8,.v (.int .i64 g.2.1))]⟩)
     (fun g=>g.1<=raw.length/\g.2.1<=3/\g.2.2.length+g.2.1<=8/\∀l,l∈g.2.2->GLk devs.length l) (fun g=>g.2.1) (p2,m2,links) ?_ ?_ ?_
    ·exact⟨hp2,hm2',by simp only;omega,i4⟩
    ·(exact leA)
    rintro⟨p2,i,links⟩ ⟨hp2,k1,k2,k3⟩
    simp only at hp2 k1 k2 k3⊢
    rcases aB 0 i with hi|hi
    ·obtain⟨i',rfl⟩:∃i',i=i'+1:=⟨i-1,by omega⟩
     have hi1:((i'+1:Nat):Int)-1=(i':Int):=by omega
     (repeat' ((conv=>whnf);first|(with_reducible first|refine wr_i64 hi1 zo zo ?_|refine nNext raw _ _ zo zp hr fun m1 p1 hm1 hp1=>?_|refine in_nat zo ?_|refine ix_ints [1,2,3,1000] 4 rfl rfl zo fun cost hcost=>?_)|refine zG ?_|apply zA|(apply zI;intro h)|exact zT));(all_goals conv=>whnf)
     all_goals first
      |(rename_i x1 y1 z1 w1 x2 y2 z2 w2
        refine⟨(p1,i',links++[⟨x2,1+(x1:Int),cost⟩]),⟨hp1,by simp only;omega,?_,?_⟩,by simp only;omega,?_⟩
        ·simp only[aC,aJ,aO];omega
        ·intro l hl
         rcases aS.1 hl with hl|hl
         ·exact k3 l hl
         ·simp only[aR]at hl
          subst hl
          exact⟨by simp only;omega,by simp only;omega,by simp only;omega,hcost⟩
        ·simp only[hpX,aQ,aC,aU,bF,aJ,aO]
         (exact leA))
      |(refine⟨(p2,links),⟨hp2,by simp only;omega,k3⟩,?_⟩
        (exact leA))
    ·have hi0:i=0:=by omega
     subst hi0
     (repeat' ((conv=>whnf);first|refine zG ?_|apply zA|(apply zI;intro h)|exact zT));(all_goals conv=>whnf)
     refine⟨(p2,links),⟨hp2,by simp only;omega,k3⟩,?_⟩
     (exact leA)
   rintro⟨p2,links⟩ ⟨hp2,k2,k3⟩
   simp only at hp2 k2 k3⊢
   (repeat' ((conv=>whnf);first|(with_reducible first|refine nNext raw _ _ zo zp hr fun m3 p3 hm3 hp3=>?_|refine in_nat zo ?_|refine ix_ints [2,3,4,1,5,0] 6 rfl rfl zo fun cnt hcnt=>?_)|refine zG ?_|apply zA|(apply zI;intro h)|exact zT));(all_goals conv=>whnf)
   have hcnt5:0<=cnt/\cnt<=5:=by
    simp only[aW,dI,or_false]at hcnt
    omega
   refine Lp.intro (Nat×List Ed) (fun g=>⟨7,hpX raw g.1 devs links g.2 [] 0,[(0,.op 0 0),(1,.v (.int .i64 (1+(m:Int)))),(4,.op 1 0),(5,.op 2 0),(10,.v (.int .i64 cnt)),(11,.v (.int .i64 g.2.length))]⟩)
    (fun g=>g.1<=raw.length/\(g.2.length:Int)<=cnt/\∀(i:Nat) e,g.2[i]? =some e->GEd devs.length i e) (fun g=>5-g.2.length) (p3,[]) ?_ ?_ ?_
   ·exact⟨hp3,by simp only[aO];omega,fun i e h=>by simp at h⟩
   ·(exact leA)
   rintro⟨p3,edges⟩ ⟨hp3,j1,j2⟩
   simp only at hp3 j1 j2⊢
   rcases(by omega:(edges.length:Int)<cnt\/cnt<=(edges.length:Int))with hlt|hge
   ·(repeat' ((conv=>whnf);first|refine zG ?_|apply zA|(apply zI;intro h)|exact zT));(all_goals conv=>whnf)
    refine Jn.intro (Nat×Ed) (fun g=>⟨7,hpX raw g.1 devs links (edges++[g.2]) [] 0,[(0,.op 0 0),(1,.v (.int .i64 (1+(m:Int)))),(4,.op 1 0),(5,.op 2 0),(10,.v (.int .i64 cnt)),(11,.v (.int .i64 edges.length))]⟩)
     (fun g=>g.1<=raw.length/\GEd devs.length edges.length g.2) ?_ ?_
    ·(repeat' ((conv=>whnf);first|(with_reducible first|refine nNext raw _ _ zo zp hr fun m1 p1 hm1 hp1=>?_|refine in_nat zo ?_|refine ix_strAt enL 5 rfl rfl zo ?_|refine ix_strs zoL 3 rfl rfl zo fun zone hzone=>?_|refine cnSub _ zo ?_)|refine zG ?_|apply zA|(apply zI;intro h)|exact zT));(all_goals conv=>whnf)
     all_goals
      rename_i x1 y1 z1 w1
      refine⟨(p1,⟨enL.getD (0+edges.length) default,x1,zone,subL.getD edges.length noPf,false⟩),⟨hp1,⟨by rw[bL],by simp only;omega,by simp only;omega,hzone,rfl,rfl⟩⟩,?_⟩
      simp only[hpX,aQ,aC,aU,bF,aJ,aO]
      (exact leA)
    ·rintro⟨p4,e⟩ ⟨hp4,he⟩
     simp only at hp4 he⊢
     (repeat' ((conv=>whnf);first|refine zG ?_|apply zA|(apply zI;intro h)|exact zT));(all_goals conv=>whnf)
     refine⟨(p4,edges++[e]),⟨hp4,?_,get_snoc j2 he⟩,?_,?_⟩
     ·simp only[aC,aJ,aO];omega
     ·simp only[aC,aJ,aO];omega
     ·simp only[aC,aJ,aO]
      (exact leA)
   ·(repeat' ((conv=>whnf);first|(with_reducible first|refine nNext raw _ _ zo zp hr fun m1 p1 hm1 hp1=>?_|refine in_nat zo ?_|refine ix_ints [0,1,0,1,2] 5 rfl rfl zo fun tol htol=>?_)|refine zG ?_|apply zA|(apply zI;intro h)|exact zT));(all_goals conv=>whnf)
    all_goals
     have he5:edges.length<=5:=by omega
     have gt:∀pools,(pools=[]\/pools=[pool1]\/pools=[pool2]\/pools=[pool1,pool2])->GTop ⟨devs,links,edges,pools,tol⟩:=fun pools h=>⟨by simp only;omega,by simp only;omega,i2,k2,k3,he5,j2,h,htol⟩
     have hdm:devs.length<=max n0 1:=by omega
    ·exact hK ⟨devs,links,edges,[pool1,pool2],tol⟩ p1 (gt _ (.inr (.inr (.inr rfl)))) hdm hp1
    ·exact hK ⟨devs,links,edges,[pool1],tol⟩ p1 (gt _ (.inr (.inl rfl))) hdm hp1
    ·exact hK ⟨devs,links,edges,[pool2],tol⟩ p1 (gt _ (.inr (.inr (.inl rfl)))) hdm hp1
    ·exact hK ⟨devs,links,edges,[],tol⟩ p1 (gt _ (.inl rfl)) hdm hp1
theorem cnCopy(t:Tp)(ht:t.devs.length<1000000/\t.links.length<1000000/\t.edges.length<1000000/\t.pools.length<1000000){K:KT}
  (hK:K (.agg [.os 0 5 0 t.devs.length,.os 1 3 0 t.links.length,.os 2 6 0 t.edges.length,.os 3 2 0 t.pools.length,.v (.int .i64 t.tol)]) [.arr 5 (t.devs.map encD),.arr 3 (t.links.map encL),.arr 6 (t.edges.map encE),.arr 2 (t.pools.map encP)]):
  ACall Tryz.prog 88 [encT t] [] K:=by
 obtain⟨t1,t2,t3,t4⟩:=ht
 refine ofnCopy rfl rfl ?_
 (repeat' ((conv=>whnf);first|refine zG ?_|apply zA|(apply zI;intro h)|exact zT));(all_goals conv=>whnf)
 simp only[bL,aA,cZ]
 exact hK
theorem cnAddr(raw:List Int)(pos:Nat)(hp:pos<=raw.length)(hr:raw.length<=9223372036854775807){K:KT}
  (hK:∀(a:Int) (pos':Nat),0<=a->a<=4294967295->pos'<=raw.length->K (.v (.int .u32 a)) [tapeO raw pos']):ACall Tryz.prog 64 [.op 0 0] [tapeO raw pos] K:=by
 refine ofnAddr rfl rfl ?_
 (repeat' ((conv=>whnf);first|(with_reducible first|refine nNext raw _ _ zo zp hr fun m1 p1 hm1 hp1=>?_|refine in_nat zo ?_|refine cnSub _ zo ?_|refine crOf _ ?_|refine wr_u32_any fun r r0 r1=>?_)|refine zG ?_|apply zA|(apply zI;intro h)|exact zT));(all_goals conv=>whnf)
 all_goals refine ix_all IsU32 ?_ (by simp only[aJ,aO];omega) ?_
 all_goals first
  |(rintro _ ⟨y,rfl,y0,y1⟩
    (repeat' ((conv=>whnf);first|refine zG ?_|apply zA|(apply zI;intro h)|exact zT));(all_goals conv=>whnf)
    exact hK y _ y0 y1 zp)
  |(simp only[fY]
    (repeat' apply And.intro)<;>first|exact⟨_,rfl,by assumption,by assumption⟩|exact⟨_,rfl,Rg.l0 _,Rg.l1 _⟩|exact⟨_,rfl,Rg.h0 _,Rg.h1 _⟩|exact⟨_,rfl,by decide,by decide⟩|(intro _ h;cases h))
noncomputable def compB(t:Tp):Bool:=topB t&& !(t.edges.any fun e=>e.pl)
theorem fixed_len_iff(l:List Ed):(fixed l).length=l.length↔(l.any fun e=>e.pl)=false:=by
 rw[fixed,aA,List.length_filter_eq_length_iff,eZ]
 exact⟨fun h e he=>by simpa using h e he,fun h e he=>by simpa using h e he⟩
theorem compB_iff{t:Tp}:compB t=true↔TopOk t/\∀e,e∈t.edges->e.pl=false:=by
 unfold compB
 rw[aI,topB_iff,eH,eZ]
 exact⟨fun h=>⟨h.1,fun e he=>by simpa using h.2 e he⟩,fun h=>⟨h.1,fun e he=>by simpa using h.2 e he⟩⟩
theorem cuCompB(t:Tp)(hl:t.edges.length<1000000){K:KT}(hK:K (.sb (compB t)) []):ACall Tryz.prog 53 [encT t] [] K:=by
 have hf:=fixed_len_iff t.edges
 refine ACall.bool (ofuComp rfl rfl ?_)
 unfold compB at hK
 (repeat' ((conv=>whnf);first|(with_reducible first|refine cuVal t ?_|refine cuFixed t hl ?_)|refine zG ?_|apply zA|(apply zI;intro h)|exact zT));(all_goals conv=>whnf)
 ·refine fin_s hK ?_
  rw[h,fC,aA,aA]
  cases hp:t.edges.any fun e=>e.pl with
  |false=>rw[decide_eq_true (by rw[hf.2 hp])];rfl
  |true=>rw[decide_eq_false (fun e=>by have:=hf.1 zo;rw[hp]at this;cases this)];rfl
 ·exact fin_f hK (by rw[h];rfl)
theorem cixEdge0(l:List Ed)(f:FuncId)(p:Ed->Bool)(hF:∀(x:Ed) (K:AV->List Vm.Obj->Prop),K (.sb (p x)) []->ACall Tryz.prog f [encE x] [] K)(hl:l.length<1000000){K:KT}(hK:K (.v (.int .i64 (firstIx p l))) []):
  ACall Tryz.prog 135 [.lst (l.map encE),.fn (.func f) [] []] [] K:=by
 refine ofixEdge rfl rfl ?_
 (repeat' ((conv=>whnf);first|refine zG ?_|apply zA|(apply zI;intro h)|exact zT));(all_goals conv=>whnf)
 refine Lp.intro Nat (fun k=>⟨0,[],[(0,.lst (l.map encE)),(1,.fn (.func f) [] []),(7,.v (.int .i64 (l.map encE).length)),(8,.v (.int .i64 k))]⟩) (fun k=>k<=l.length/\∀(i:Nat) y,i<k->l[i]? =some y->p y=false) (fun k=>l.length-k) 0 ?_ ?_ ?_
 ·exact⟨aH _,fun i y hi=>absurd hi (aZ _)⟩
 ·(exact leA)
 ·intro k ⟨hk,hinv⟩
  rcases aB k l.length with hkl|hkl
  ·obtain⟨r,hr⟩:=gex hkl
   (repeat' ((conv=>whnf);first|(with_reducible first|refine in_map hkl ?_|refine ix_map hr ?_|refine hF r _ ?_)|refine zG ?_|apply zA|(apply zI;intro h)|exact zT));(all_goals conv=>whnf)
   ·rw[firstIx_at hr h hinv]at hK;exact hK
   ·refine⟨k+1,⟨by omega,before_succ hr h hinv⟩,by omega,?_⟩
    rw[aN,aL]
    (exact leA)
  ·(repeat' ((conv=>whnf);first|refine zG ?_|apply zA|(apply zI;intro h)|exact zT));(all_goals conv=>whnf)
   rw[firstIx_none (before_all hkl hinv)]at hK
   exact hK
theorem firstIx_any{α:Type}(p:α->Bool)(l:List α):decide (0<=firstIx p l)=l.any p:=by
 rw[bG,dM,aK]
 constructor
 ·intro h
  unfold firstIx at h
  split at h
  ·rename_i i hi
   rw[dP]at hi
   obtain⟨h1,h2,_⟩:=hi
   exact⟨_,dD h1,h2⟩
  ·omega
 ·rintro⟨x,hx,hp⟩
  unfold firstIx
  split
  ·omega
  ·rename_i hn
   rw[fM]at hn
   have:=hn x hx
   simp_all
theorem ctCom1(e:Ed){K:KT}(hK:K (.sb e.pl) []):ACall Tryz.prog 148 [encE e] [] K:=by
 refine oftCom1 rfl rfl ?_
 (repeat' ((conv=>whnf);first|refine zG ?_|apply zA|(apply zI;intro h)|exact zT));(all_goals conv=>whnf)
 exact hK
theorem canyEdge(l:List Ed)(hl:l.length<1000000){K:KT}(hK:K (.sb (l.any fun e=>e.pl)) []):
  ACall Tryz.prog 147 [.lst (l.map encE),.fn (.func 148) [] []] [] K:=by
 refine ACall.bool (ofanyEdge rfl rfl ?_)
 (repeat' ((conv=>whnf);first|(with_reducible refine cixEdge0 _ _ (fun e=>e.pl) (fun x K h=>ctCom1 x h) hl ?_)|refine zG ?_|apply zA|(apply zI;intro h)|exact zT));(all_goals conv=>whnf)
 exact fin_s hK (firstIx_any _ _).symm
theorem ctComp(t:Tp)(hl:t.edges.length<1000000){K:KT}(hK:K (.sb (compB t)) []):ACall Tryz.prog 71 [encT t] [] K:=by
 refine ACall.bool (oftComp rfl rfl ?_)
 unfold compB at hK
 (repeat' ((conv=>whnf);first|(with_reducible first|refine ctVal t ?_|refine canyEdge t.edges hl ?_)|refine zG ?_|apply zA|(apply zI;intro h)|exact zT));(all_goals conv=>whnf)
 ·exact fin_s hK (by rw[h];rfl)
 ·exact fin_f hK (by rw[h];rfl)
def edgeAt(t:Tp)(v:Int):Int:=firstIx (fun e=> !e.pl&&e.pf.has v) t.edges
structure Insp where
 cls:ByteArray
 set:List Bx
structure Pol where
 allow:List Bx
 insp:List Insp
noncomputable abbrev encIn(x:Insp):AV:=.agg [.v (.string x.cls),encXs x.set]
noncomputable abbrev encPol(p:Pol):AV:=.agg [encXs p.allow,.lst (p.insp.map encIn)]
noncomputable abbrev boxPol(p:Pol):Vm.Obj:=.box [encXs p.allow,.lst (p.insp.map encIn)]
def whoB(p q:Pf):Bx:=⟨p.rg,q.rg,fullB.r2,fullB.r3,fullB.r4⟩
def pairsAt(es:List Ed)(a:Nat)(ea:Ed)(n:Nat):List Bx:=((es.take n).zipIdx.filter fun q=>decide (a≠q.2)).map fun q=>whoB ea.pf q.1.pf
def pairsTo(es:List Ed)(n:Nat):List Bx:=((es.take n).zipIdx).flatMap fun q=>pairsAt es q.2 q.1 es.length
def pairsB(es:List Ed):List Bx:=pairsTo es es.length
theorem zip_succ{α:Type}{l:List α}{k:Nat}{x:α}(h:l[k]? =some x):(l.take (k+1)).zipIdx=(l.take k).zipIdx++[(x,k)]:=by
 have hk:=(aP.1 h).1
 rw[bJ,h,List.zipIdx_append]
 simp[fJ (Nat.le_of_lt hk)]
theorem pairsAt_succ{es:List Ed}{a n:Nat}{ea e:Ed}(h:es[n]? =some e):pairsAt es a ea (n+1)=pairsAt es a ea n++(if a=n then []else [whoB ea.pf e.pf]):=by
 rw[pairsAt,zip_succ h,dB,aQ,pairsAt]
 congr 1
 by_cases hc:a=n
 ·simp[hc]
 ·simp[hc]
theorem pairsTo_succ{es:List Ed}{a:Nat}{ea:Ed}(h:es[a]? =some ea):pairsTo es (a+1)=pairsTo es a++pairsAt es a ea es.length:=by
 rw[pairsTo,zip_succ h,eJ,pairsTo]
 simp
theorem pairsAt_len(es:List Ed)(a:Nat)(ea:Ed)(n:Nat):(pairsAt es a ea n).length<=n:=by
 rw[pairsAt,aA]
 refine bR (dL ..) ?_
 rw[List.length_zipIdx,bI];omega
theorem pairsTo_len(es:List Ed):∀n,(pairsTo es n).length<=n*es.length
 |0=>by simp[pairsTo]
 |n+1=>by
  rcases aB n es.length with h|h
  ·rw[pairsTo_succ (aD h),aC,fI]
   have:=pairsAt_len es n (es[n]) es.length
   have:=pairsTo_len es n
   omega
  ·have e:pairsTo es (n+1)=pairsTo es n:=by rw[pairsTo,pairsTo,aX zo,aX h]
   rw[e]
   have:=pairsTo_len es n
   rw[fI];omega
def subB(a b:List Bx):Bool:=(cano woB 5 (vldB a) (vldB b)).isEmpty
noncomputable def pairP(t:Tp)(p:Pol)(a b:Int):List Bx×Int:=
 if compB t=false then([],1)else if a<0\/(t.edges.length:Int)<=a\/b<0\/(t.edges.length:Int)<=b then([],2)else if a=b then([],0)else
  match t.edges[a.toNat]?,t.edges[b.toNat]? with
  |some ea,some eb=>combP anB p.allow [whoB ea.pf eb.pf]
  |_,_=>([],0)
theorem combP_len(op:Bool->Bool->Bool)(a b:List Bx):(combP op a b).1.length<=4096:=by
 unfold combP
 split
 ·exact aH _
 ·split
  ·exact aH _
  ·simp only[limP]
   split
   ·exact aH _
   ·omega
def leS(s t:ByteArray):Bool:=Op.bytesLess s.toList t.toList||s.toList==t.toList
def disjS(a b:List Bx):Prop:=∀x,x∈a->∀y,y∈b->¬meetX x y
structure InOk (p:Pol) (n:Nat) (x:Insp):Prop where
 name:nameOk x.cls
 ord:∀k y,n=k+1->p.insp[k]? =some y->leS x.cls y.cls=false
 ne:x.set≠[]
 set:setB x.set=true
 sub:subB x.set p.allow=true
 disj:∀k y,k<n->p.insp[k]? =some y->disjS x.set y.set
structure PolOk (t:Tp) (p:Pol):Prop where
 comp:compB t=true
 set:setB p.allow=true
 sub:subB p.allow (pairsB t.edges)=true
 init:subB p.allow initS=true
 insp:∀n x,p.insp[n]? =some x->InOk p n x
open Classical in
noncomputable def polB(t:Tp)(p:Pol):Bool:=decide (PolOk t p)
theorem polB_true{t:Tp}{p:Pol}(h:PolOk t p):polB t p=true:=by simp[polB,h]
theorem polB_false{t:Tp}{p:Pol}(h:¬PolOk t p):polB t p=false:=by simp[polB,h]
theorem combP_set{op:Bool->Bool->Bool}{a b:List Bx}(ha:setB a=true)(hb:setB b=true):combP op a b=(limP (cano op 5 a b),limE (cano op 5 a b)):=by
 unfold combP givP
 simp[ha,hb]
theorem lim_empty(c:List Bx):(limE c≠0\/0<(limP c).length)↔c≠[]:=by
 unfold limE limP
 by_cases h:4096<c.length
 ·simp only[h,if_true]
  constructor
  ·intro _ e;rw[e]at h;simp at h
  ·intro _;left;decide
 ·simp only[h,if_false]
  cases c with
  |nil=>simp
  |cons x l=>simp
theorem disj_iff{a b:List Bx}(ha:setB a=true)(hb:setB b=true):cano anB 5 a b=[]↔disjS a b:=cano_disj (okL_set ha) (okL_set hb)
theorem filter_two{α:Type}(p:α->Bool):∀l:List α,(l.filter p).length+(l.filter fun q=> !p q).length=l.length
 |[]=>rfl
 |x::l=>by
  have:=filter_two p l
  cases hp:p x<;>simp[hp]<;>omega
theorem pairs_len5{es:List Ed}(h:es.length<=5):(pairsTo es es.length).length<=20:=by
 have hat:∀(a:Nat) (ea:Ed),a<es.length->(pairsAt es a ea es.length).length+1<=es.length:=by
  intro a ea ha
  rw[pairsAt,aA,cU]
  have h1:((es.zipIdx.filter fun q=>decide (a≠q.2)).length:Nat)+(es.zipIdx.filter fun q=> !decide (a≠q.2)).length=es.zipIdx.length:=by
   exact filter_two _ _
  have h2:1<=(es.zipIdx.filter fun q=> !decide (a≠q.2)).length:=by
   refine dH.2 fun e=>?_
   have:(es[a],a)∈es.zipIdx.filter fun q=> !decide (a≠q.2):=cE.2 ⟨fG.2 zx,by simp⟩
   rw[e]at this;cases this
  rw[List.length_zipIdx]at h1
  omega
 have go:∀n,n<=es.length->(pairsTo es n).length<=n*(es.length-1):=by
  intro n
  induction n with
  |zero=>intro _;simp[pairsTo]
  |succ n ih=>
   intro hn
   rw[pairsTo_succ (aD (show n<es.length by omega)),aC,fI]
   have:=hat n (es[n]) zo
   have:=ih zo
   omega
 have h1:=go es.length (aM _)
 have h2:es.length*(es.length-1)<=5*4:=dQ h zo
 omega
abbrev isecR(r s:Rg):Rg:=⟨max r.lo s.lo,min r.hi s.hi,by have:=r.l0;omega,by have:=r.l1;have:=s.l1;omega,by have:=r.h0;have:=s.h0;omega,by have:=r.h1;omega⟩
abbrev isecX(x y:Bx):Bx:=⟨isecR x.r0 y.r0,isecR x.r1 y.r1,isecR x.r2 y.r2,isecR x.r3 y.r3,isecR x.r4 y.r4⟩
theorem cr3Isec(x y:Bx){K:KT}(hK:K (.tup [encX (if x.ok/\y.ok/\(isecX x y).ok then isecX x y else zB),.sb (decide (x.ok/\y.ok/\(isecX x y).ok))]) []):ACall Tryz.prog 244 [encX x,encX y] [] K:=by
 refine ACall.weak (ofr3Isec rfl rfl ?_)
 (repeat' ((conv=>whnf);first|(with_reducible refine Lp.times 6 ?_)|(refine in_c zd ?_)|(with_reducible first|refine cr3Val x ?_|refine cr3Val y ?_)|(refine cr3Val (isecX x y) ?_)|refine zG ?_|apply zA|(apply zI;intro h)|exact zT));(all_goals conv=>whnf)
 ·rename_i h1 h2
  rw[aG ⟨h1,h2,h⟩,decide_eq_true ⟨h1,h2,h⟩]at hK
  exact⟨_,Weak.tup2 Weak.refl Weak.bool,hK⟩
 all_goals
  rw[aE (by simp_all),decide_eq_false (by simp_all)]at hK
  exact⟨_,Weak.tup2 Weak.refl Weak.bool,hK⟩
theorem meet_ok{x y:Bx}(hx:x.ok)(hy:y.ok):(x.ok/\y.ok/\(isecX x y).ok)↔meetX x y:=by
 have h1:=ok_get hx
 have h2:=ok_get hy
 have x0:=h1 0 zo;have x1:=h1 1 zo;have x2:=h1 2 zo;have x3:=h1 3 zo;have x4:=h1 4 zo
 have y0:=h2 0 zo;have y1:=h2 1 zo;have y2:=h2 2 zo;have y3:=h2 3 zo;have y4:=h2 4 zo
 simp only[Bx.get,topF]at x0 x1 x2 x3 x4 y0 y1 y2 y3 y4
 have e:(isecX x y).ok↔((max x.r0.lo y.r0.lo<=min x.r0.hi y.r0.hi/\min x.r0.hi y.r0.hi<=4294967295)/\(max x.r1.lo y.r1.lo<=min x.r1.hi y.r1.hi/\min x.r1.hi y.r1.hi<=4294967295)/\(max x.r2.lo y.r2.lo<=min x.r2.hi y.r2.hi/\min x.r2.hi y.r2.hi<=255)/\(max x.r3.lo y.r3.lo<=min x.r3.hi y.r3.hi/\min x.r3.hi y.r3.hi<=65535)/\(max x.r4.lo y.r4.lo<=min x.r4.hi y.r4.hi/\min x.r4.hi y.r4.hi<=65535)):=Iff.rfl
 constructor
 ·rintro⟨_,_,h⟩
  rw[e]at h
  intro f hf
  obtain rfl|rfl|rfl|rfl|rfl:f=0\/f=1\/f=2\/f=3\/f=4:=by omega
  all_goals(simp only[Bx.get];omega)
 ·intro h
  have z0:=h 0 zo;have z1:=h 1 zo;have z2:=h 2 zo;have z3:=h 3 zo;have z4:=h 4 zo
  simp only[Bx.get]at z0 z1 z2 z3 z4
  exact⟨hx,hy,e.2 zo⟩
theorem okL_ok{l:List Bx}(h:okL l){x:Bx}(hx:x∈l):x.ok:=by
 have h0:=h x hx 0 zo;have h1:=h x hx 1 zo;have h2:=h x hx 2 zo;have h3:=h x hx 3 zo;have h4:=h x hx 4 zo
 exact⟨h0,h1,h2,h3,h4⟩
open Classical in
theorem cvDisj(a b:List Bx)(hoa:okL a)(hob:okL b)(ha:a.length<1000000000)(hb:b.length<1000000000){K:KT}(hK:K (.sb (decide (disjS a b))) []):ACall Tryz.prog 163 [encXs a,encXs b] [] K:=by
 refine ACall.bool (ofvDisj rfl rfl ?_)
 (repeat' ((conv=>whnf);first|refine zG ?_|apply zA|(apply zI;intro h)|exact zT));(all_goals conv=>whnf)
 refine Lp.intro Nat (fun i=>⟨0,[],[(0,encXs a),(1,encXs b),(5,.v (.int .i64 i))]⟩) (fun i=>i<=a.length/\∀(j:Nat) x,j<i->a[j]? =some x->∀y,y∈b->¬meetX x y) (fun i=>a.length-i) 0 ⟨aH _,fun j x h=>absurd h (aZ _)⟩ ?_ ?_
 ·(exact leA)
 intro i ⟨hi,hinv⟩
 rcases aB i a.length with hil|hil
 ·obtain⟨x,hx⟩:=gex hil
  have hxo:=okL_ok hoa (aF hx)
  (repeat' ((conv=>whnf);first|refine zG ?_|apply zA|(apply zI;intro h)|exact zT));(all_goals conv=>whnf)
  refine Lp.intro Nat (fun k=>⟨0,[],[(0,encXs a),(1,encXs b),(5,.v (.int .i64 i)),(6,.v (.int .i64 k))]⟩) (fun k=>k<=b.length/\∀(j:Nat) y,j<k->b[j]? =some y->¬meetX x y) (fun k=>b.length-k) 0 ⟨aH _,fun j x h=>absurd h (aZ _)⟩ ?_ ?_
  ·(exact leA)
  intro k ⟨hk,hinv2⟩
  rcases aB k b.length with hkl|hkl
  ·obtain⟨y,hy⟩:=gex hkl
   have hyo:=okL_ok hob (aF hy)
   have hm:=meet_ok hxo hyo
   (repeat' ((conv=>whnf);first|(with_reducible first|refine in_map hil ?_|refine in_map hkl ?_|refine ix_map hx ?_|refine ix_map hy ?_|refine cr3Isec x y ?_)|refine zG ?_|apply zA|(apply zI;intro h)|exact zT));(all_goals conv=>whnf)
   all_goals first
    |exact fin_f hK (decide_eq_false fun hd=>hd x (aF hx) y (aF hy) (hm.1 h))
    |(refine⟨k+1,⟨hkl,all_succ hy (fun hc=>h (hm.2 hc)) hinv2⟩,by omega,?_⟩
      rw[aN,aL]
      (exact leA))
  ·(repeat' ((conv=>whnf);first|refine zG ?_|apply zA|(apply zI;intro h)|exact zT));(all_goals conv=>whnf)
   refine⟨i+1,⟨hil,all_succ hx (fun y hy=>?_) hinv⟩,by omega,?_⟩
   ·obtain⟨j,hj⟩:=bM.1 hy
    exact before_all hkl hinv2 j y hj
   ·rw[aN,aL]
    (exact leA)
 ·(repeat' ((conv=>whnf);first|refine zG ?_|apply zA|(apply zI;intro h)|exact zT));(all_goals conv=>whnf)
  refine fin_t hK (decide_eq_true fun x hx y hy=>?_)
  obtain⟨j,hj⟩:=bM.1 hx
  exact before_all hil hinv j x hj y hy
theorem cvWho(t:Tp)(a b:Nat)(ea eb:Ed)(ha:t.edges[a]? =some ea)(hb:t.edges[b]? =some eb){K:KT}(hK:K (encX (whoB ea.pf eb.pf)) []):ACall Tryz.prog 126 [encT t,.v (.int .i64 a),.v (.int .i64 b)] [] K:=by
 have hal:=(aP.1 ha).1
 have hbl:=(aP.1 hb).1
 refine ofvWho rfl rfl ?_
 (repeat' ((conv=>whnf);first|(with_reducible first|refine cr3Full ?_|refine in_map hal ?_|refine in_map hbl ?_|refine ix_map ha ?_|refine ix_map hb ?_|refine crOf _ ?_)|(refine in_c zd ?_)|refine zG ?_|apply zA|(apply zI;intro h)|exact zT));(all_goals conv=>whnf)
 exact hK
theorem cvReal(t:Tp)(l:List Bx)(hl:t.edges.length<=5)(hs:setB l=true){K:KT}(hK:K (.sb (subB l (pairsB t.edges)&&subB l initS)) []):ACall Tryz.prog 162 [encT t,encXs l] [] K:=by
 have hps:=setB_pset hs
 have hvl:vldB l=l:=dV.2 fun x hx=>by simpa using okL_ok (okL_set hs) hx
 have hpl:(pairsB t.edges).length<=20:=by
  rw[pairsB]
  have:=pairs_len5 hl
  exact this
 have hll:=hps.len
 have hi8:initS.length=8:=rfl
 have hsub1:∀{K:KT},K (.sb (subB l (pairsB t.edges))) []->ACall Tryz.prog 33 [encXs l,encXs (pairsTo t.edges t.edges.length)] [] K:=fun h=>cr4Subs l (pairsB t.edges) zo (by rw[hvl];exact room1 _ hps (bR (vldB_len _) hpl)) h
 have hsub2:∀{K:KT},K (.sb (subB l initS)) []->ACall Tryz.prog 33 [encXs l,encXs initS] [] K:=fun h=>cr4Subs _ _ zo (by rw[hvl];exact room1 _ hps (bR (vldB_len _) zd)) h
 refine ACall.bool (ofvReal rfl rfl ?_)
 (repeat' ((conv=>whnf);first|refine zG ?_|apply zA|(apply zI;intro h)|exact zT));(all_goals conv=>whnf)
 refine Lp.intro Nat (fun a=>⟨2,[(1,.arr 10 ((pairsTo t.edges a).map encX)),(0,boxT t)],[(1,encXs l),(2,.op 0 0),(5,.os 1 10 0 (pairsTo t.edges a).length),(6,.v (.int .i64 a))]⟩) (fun a=>a<=t.edges.length) (fun a=>t.edges.length-a) 0 (aH _) ?_ ?_
 ·(exact leA)
 intro a ha
 have hl1:=pairsTo_len t.edges a
 have hl2:a*t.edges.length<=5*5:=dQ zo zo
 rcases aB a t.edges.length with hal|hal
 ·obtain⟨ea,hea⟩:=gex hal
  (repeat' ((conv=>whnf);first|refine zG ?_|apply zA|(apply zI;intro h)|exact zT));(all_goals conv=>whnf)
  refine Lp.intro Nat (fun b=>⟨2,[(1,.arr 10 ((pairsTo t.edges a++pairsAt t.edges a ea b).map encX)),(0,boxT t)],[(1,encXs l),(2,.op 0 0),(5,.os 1 10 0 (pairsTo t.edges a++pairsAt t.edges a ea b).length),(6,.v (.int .i64 a)),(7,.v (.int .i64 b))]⟩) (fun b=>b<=t.edges.length) (fun b=>t.edges.length-b) 0 (aH _) ?_ ?_
  ·rw[show pairsAt t.edges a ea 0=[]from rfl,bD]
   (exact leA)
  intro b hb
  have hl3:=pairsAt_len t.edges a ea b
  rcases aB b t.edges.length with hbl|hbl
  ·obtain⟨eb,heb⟩:=gex hbl
   have hs:=pairsAt_succ (a:=a) (ea:=ea) heb
   have hlen:(pairsTo t.edges a++pairsAt t.edges a ea b).length<=100:=by rw[aC];omega
   have hap:pairsTo t.edges a++pairsAt t.edges a ea (b+1)=(pairsTo t.edges a++pairsAt t.edges a ea b)++(if a=b then []else [whoB ea.pf eb.pf]):=by rw[hs,cJ]
   generalize hA:pairsTo t.edges a++pairsAt t.edges a ea b=A at*
   generalize hB:pairsTo t.edges a++pairsAt t.edges a ea (b+1)=B at*
   (repeat' ((conv=>whnf);first|(with_reducible refine cvWho t a b ea eb hea heb ?_)|refine zG ?_|apply zA|(apply zI;intro h)|exact zT));(all_goals conv=>whnf)
   all_goals
    refine⟨b+1,hbl,by omega,?_⟩
    first
     |(rw[aE zo]at hap
       rw[hB,hap,aQ,aC,aN b,aL]
       (exact leA)
       done)
     |(rw[aG zo,bD]at hap
       rw[hB,hap,aN b,aL]
       (exact leA)
       done)
  ·(repeat' ((conv=>whnf);first|refine zG ?_|apply zA|(apply zI;intro h)|exact zT));(all_goals conv=>whnf)
   have hbe:b=t.edges.length:=by omega
   rw[hbe,<-pairsTo_succ hea]
   refine⟨a+1,hal,by omega,?_⟩
   rw[aN a,aL]
   (exact leA)
 ·have hae:a=t.edges.length:=by omega
  rw[hae]
  have hfull:((pairsTo t.edges t.edges.length).map encX).length=(pairsTo t.edges t.edges.length).length:=aA ..
  (repeat' ((conv=>whnf);first|(with_reducible first|refine sl_full hfull ?_|refine hsub1 ?_|refine cr4Init ?_|refine hsub2 ?_)|refine zG ?_|apply zA|(apply zI;intro h)|exact zT));(all_goals conv=>whnf)
  all_goals first
   |exact fin_s hK (by simp_all)
   |exact fin_f hK (by simp_all)
   |exact fin_t hK (by simp_all)
theorem cvPair(t:Tp)(p:Pol)(a b:Int)(hl:t.edges.length<1000000)(hal:p.allow.length<1000000000){K:KT}(hK:K (.tup [encXs (pairP t p a b).1,.v (.int .i64 (pairP t p a b).2)]) []):ACall Tryz.prog 84 [encT t,encPol p,.v (.int .i64 a),.v (.int .i64 b)] [] K:=by
 refine ACall.weak (ofvPair rfl rfl ?_)
 unfold pairP at hK
 by_cases hc:compB t=false
 ·rw[aG hc]at hK
  (repeat' ((conv=>whnf);first|(with_reducible refine cuCompB t hl ?_)|refine zG ?_|apply zA|(apply zI;intro h)|exact zT));(all_goals conv=>whnf)
  all_goals first
   |exact⟨_,Weak.tup2 Weak.nils Weak.refl,hK⟩
   |(exfalso;simp_all;done)
 rw[aE hc]at hK
 have hct:compB t=true:=by simpa using hc
 by_cases hr:a<0\/(t.edges.length:Int)<=a\/b<0\/(t.edges.length:Int)<=b
 ·rw[aG hr]at hK
  (repeat' ((conv=>whnf);first|(with_reducible refine cuCompB t hl ?_)|refine zG ?_|apply zA|(apply zI;intro h)|exact zT));(all_goals conv=>whnf)
  all_goals first
   |exact⟨_,Weak.tup2 Weak.nils Weak.refl,hK⟩
   |(exfalso;simp only[aA]at*;simp_all;done)
   |(exfalso;simp only[aA]at*;omega)
 rw[aE hr]at hK
 by_cases he:a=b
 ·rw[aG he]at hK
  (repeat' ((conv=>whnf);first|(with_reducible refine cuCompB t hl ?_)|refine zG ?_|apply zA|(apply zI;intro h)|exact zT));(all_goals conv=>whnf)
  all_goals first
   |exact⟨_,Weak.tup2 Weak.nils Weak.refl,hK⟩
   |(exfalso;simp only[aA]at*;simp_all;done)
   |(exfalso;simp only[aA]at*;omega)
 rw[aE he]at hK
 obtain⟨i,rfl⟩:=cP (show 0<=a by omega)
 obtain⟨j,rfl⟩:=cP (show 0<=b by omega)
 have hil:i<t.edges.length:=by omega
 have hjl:j<t.edges.length:=by omega
 obtain⟨ea,hea⟩:=gex hil
 obtain⟨eb,heb⟩:=gex hjl
 simp only[fB,hea,heb]at hK
 have hint:∀{K:KT},K (.tup [encXs (combP anB p.allow [whoB ea.pf eb.pf]).1,.v (.int .i64 (combP anB p.allow [whoB ea.pf eb.pf]).2)]) []->ACall Tryz.prog 57 [encXs p.allow,.lst [encX (whoB ea.pf eb.pf)]] [] K:=fun h=>cr4Int p.allow [whoB ea.pf eb.pf] hal zx h
 (repeat' ((conv=>whnf);first|(with_reducible first|refine cuCompB t hl ?_|refine cvWho t i j ea eb hea heb ?_|refine hint ?_)|refine zG ?_|apply zA|(apply zI;intro h)|exact zT));(all_goals conv=>whnf)
 all_goals first
  |exact⟨_,Weak.refl,hK⟩
  |(exfalso;simp only[aA]at*;simp_all;done)
  |(exfalso;simp only[aA]at*;omega)
theorem cvVal(t:Tp)(p:Pol)(hl:t.edges.length<1000)(h5:compB t=true->t.edges.length<=5)(hal:p.allow.length<1000000000)(hil:p.insp.length<1000000000)(hsl:∀x,x∈p.insp->x.set.length<1000000000){K:KT}(hK:K (.sb (polB t p)) []):ACall Tryz.prog 85 [encT t,encPol p] [] K:=by
 refine ACall.bool (ofvVal rfl rfl ?_)
 by_cases hcs:compB t=true/\setB p.allow=true
 case neg=>
  have hf:polB t p=false:=polB_false fun hp=>hcs ⟨hp.comp,hp.set⟩
  (repeat' ((conv=>whnf);first|(with_reducible first|refine cuCompB t zo ?_|refine cr4Vald p.allow hal ?_)|refine zG ?_|apply zA|(apply zI;intro h)|exact zT));(all_goals conv=>whnf)
  all_goals first
   |exact fin_f hK hf
   |(exfalso;exact hcs ⟨by assumption,by assumption⟩)
 obtain⟨hc1,hc2⟩:=hcs
 have hps:=setB_pset hc2
 have hva:vldB p.allow=p.allow:=dV.2 fun x hx=>by simpa using okL_ok (okL_set hc2) hx
 have hreal:∀{K:KT},K (.sb (subB p.allow (pairsB t.edges)&&subB p.allow initS)) []->ACall Tryz.prog 162 [encT t,encXs p.allow] [] K:=fun h=>cvReal t p.allow (h5 hc1) hc2 h
 (repeat' ((conv=>whnf);first|(with_reducible first|refine cuCompB t zo ?_|refine cr4Vald p.allow hal ?_|refine hreal ?_)|refine zG ?_|apply zA|(apply zI;intro h)|exact zT));(all_goals conv=>whnf)
 all_goals first
  |exact fin_f hK (polB_false fun hp=>by have h1:=hp.comp;have h2:=hp.set;have h3:=hp.sub;have h4:=hp.init;simp_all)
  |skip
 obtain⟨hc3,hc4⟩:=Bool.and_eq_true_iff.1 h
 clear h
 have hbad:∀{n:Nat} {x:Insp},p.insp[n]? =some x->¬InOk p n x->polB t p=false:=fun hx hb=>polB_false fun hp=>hb (hp.insp _ _ hx)
 clear hreal
 refine Lp.intro Nat (fun n=>⟨1,[(0,boxPol p)],[(3,.op 0 0),(5,.v (.int .i64 n))]⟩) (fun n=>n<=p.insp.length/\∀(i:Nat) x,i<n->p.insp[i]? =some x->InOk p i x) (fun n=>p.insp.length-n) 0 ⟨aH _,fun i x h=>absurd h (aZ _)⟩ ?_ ?_
 ·(exact leA)
 intro n ⟨hn,hinv⟩
 rcases aB n p.insp.length with hnl|hnl
 ·obtain⟨x,hx⟩:=gex hnl
  have hxl:=hsl x (aF hx)
  have hsubx:setB x.set=true->∀{K:KT},K (.sb (subB x.set p.allow)) []->ACall Tryz.prog 33 [encXs x.set,encXs p.allow] [] K:=fun hx {K} h=>cr4Subs _ _ (by have:=hps.len;have:=(setB_pset hx).len;omega) (by
   rw[hva,show vldB x.set=x.set from dV.2 fun y hy=>by simpa using okL_ok (okL_set hx) hy]
   exact room2 _ (setB_pset hx) hps) h
  have hprev:n=0\/∃k y,n=k+1/\p.insp[k]? =some y:=by
   cases n with
   |zero=>exact .inl rfl
   |succ k=>exact .inr ⟨k,_,rfl,aD zo⟩
  have hbx:=fun h=>hbad hx h
  (repeat' ((conv=>whnf);first|(with_reducible first|refine in_map hnl ?_|refine in_nat hnl ?_|refine ix_map hx ?_)|refine zG ?_|apply zA|(apply zI;intro h)|exact zT));(all_goals conv=>whnf)
  refine Jn.intro Unit (fun _=>⟨2,[(1,.box [.v (.string x.cls),encXs x.set]),(0,boxPol p)],[(3,.op 0 0),(6,.op 1 0),(5,.v (.int .i64 n))]⟩)
   (fun _=>nameOk x.cls/\(∀k y,n=k+1->p.insp[k]? =some y->leS x.cls y.cls=false)/\x.set≠[]/\setB x.set=true/\subB x.set p.allow=true) ?_ ?_
  ·have hemp:∀{l:List Bx},¬(((l.map encX).length:Nat):Int)=0->l≠[]:=fun h e=>h (by rw[e];rfl)
   rcases hprev with rfl|⟨k,y,rfl,hy⟩
   ·(repeat' ((conv=>whnf);first|(with_reducible first|refine in_map hnl ?_|refine in_nat hnl ?_|refine ix_map hx ?_|refine crName _ ?_|refine cr4Vald x.set hxl ?_|refine hsubx zp ?_)|refine zG ?_|apply zA|(apply zI;intro h)|exact zT));(all_goals conv=>whnf)
    all_goals first
     |(exact fin_f hK (hbx fun ho=>by first
        |exact absurd h (by rw[nameB_true ho.name];decide)
        |exact absurd h (by rw[ho.set];decide)
        |exact absurd h (by rw[ho.sub];decide)
        |exact ho.ne (bS.1 (by rw[aA]at h;omega))))
     |(refine⟨(),⟨nameB_iff.1 zp,fun k y h=>by omega,hemp zp,by assumption,by assumption⟩,?_⟩
       (exact leA)
       done)
   ·have hkl:k<p.insp.length:=by omega
    have hordk:(Op.bytesLess x.cls.toList y.cls.toList||x.cls.toList==y.cls.toList)=false->∀k' y',k+1=k'+1->p.insp[k']? =some y'->leS x.cls y'.cls=false:=fun h k' y' h1 h2=>by
     obtain rfl:k=k':=by omega
     rw[hy]at h2;cases h2;exact h
    (repeat' ((conv=>whnf);first|(with_reducible first|refine in_map hnl ?_|refine in_nat hnl ?_|refine In.intro k zo (by rw[aA];exact hkl) ?_|refine ix_map hx ?_|refine ix_map hy ?_|refine crName _ ?_|refine cr4Vald x.set hxl ?_|refine hsubx zp ?_)|refine zG ?_|apply zA|(apply zI;intro h)|exact zT));(all_goals conv=>whnf)
    all_goals first
     |(exact fin_f hK (hbx fun ho=>by first
        |exact absurd h (by rw[nameB_true ho.name];decide)
        |exact absurd h (by rw[ho.set];decide)
        |exact absurd h (by rw[ho.sub];decide)
        |exact ho.ne (bS.1 (by rw[aA]at h;omega))
        |exact absurd (show leS x.cls y.cls=true from h) (by rw[ho.ord k y rfl hy];decide)))
     |(refine⟨(),⟨nameB_iff.1 zp,hordk zp,hemp zp,by assumption,by assumption⟩,?_⟩
       (exact leA)
       done)
  ·rintro⟨⟩ ⟨f1,f2,f3,f4,f5⟩
   (repeat' ((conv=>whnf);first|refine zG ?_|apply zA|(apply zI;intro h)|exact zT));(all_goals conv=>whnf)
   refine Lp.intro Nat (fun k=>⟨2,[(1,.box [.v (.string x.cls),encXs x.set]),(0,boxPol p)],[(3,.op 0 0),(5,.v (.int .i64 n)),(6,.op 1 0),(7,.v (.int .i64 k))]⟩) (fun k=>k<=n/\∀(i:Nat) y,i<k->p.insp[i]? =some y->disjS x.set y.set) (fun k=>n-k) 0 ⟨aH _,fun i y h=>absurd h (aZ _)⟩ ?_ ?_
   ·(exact leA)
   intro k ⟨hk,hdis⟩
   rcases aB k n with hkn|hkn
   ·obtain⟨y,hy⟩:∃y,p.insp[k]? =some y:=⟨_,aD zo⟩
    have hkl:k<p.insp.length:=by omega
    have hyl:=hsl y (aF hy)
    have hys:=(hinv k y hkn hy).set
    (repeat' ((conv=>whnf);first|(with_reducible first|refine in_map hkl ?_|refine ix_map hy ?_|refine cvDisj x.set y.set (okL_set f4) (okL_set hys) hxl hyl ?_)|refine zG ?_|apply zA|(apply zI;intro h)|exact zT));(all_goals conv=>whnf)
    all_goals first
     |(refine⟨k+1,⟨hkn,all_succ hy zp hdis⟩,by omega,?_⟩
       rw[aN,aL]
       (exact leA)
       done)
     |exact fin_f hK (hbx fun ho=>h (ho.disj k y hkn hy))
   ·have hke:k=n:=by omega
    subst hke
    (repeat' ((conv=>whnf);first|refine zG ?_|apply zA|(apply zI;intro h)|exact zT));(all_goals conv=>whnf)
    refine⟨k+1,⟨hnl,all_succ hx ⟨f1,f2,f3,f4,f5,fun j y hj hy=>hdis j y hj hy⟩ hinv⟩,by omega,?_⟩
    rw[aN,aL]
    (exact leA)
 ·(repeat' ((conv=>whnf);first|refine zG ?_|apply zA|(apply zI;intro h)|exact zT));(all_goals conv=>whnf)
  exact fin_t hK (polB_true ⟨hc1,hc2,hc3,hc4,before_all hnl hinv⟩)
structure Hd where
 src:Int
 dst:Int
 pro:Int
 sp:Int
 dp:Int
structure Hd.Ok (h:Hd):Prop where
 s0:0<=h.src
 s1:h.src<=4294967295
 d0:0<=h.dst
 d1:h.dst<=4294967295
 p0:0<=h.pro
 p1:h.pro<=255
 a0:0<=h.sp
 a1:h.sp<=65535
 b0:0<=h.dp
 b1:h.dp<=65535
noncomputable abbrev encHd(h:Hd):AV:=.agg [.v (.int .u32 h.src),.v (.int .u32 h.dst),.v (.int .u8 h.pro),.v (.int .u16 h.sp),.v (.int .u16 h.dp)]
theorem cvPt(h:Hd)(ho:h.Ok){K:KT}(hK:K (.agg [.v (.int .u32 h.src),.v (.int .u32 h.dst),.v (.int .u32 h.pro),.v (.int .u32 h.sp),.v (.int .u32 h.dp)]) []):ACall Tryz.prog 144 [encHd h] [] K:=by
 obtain⟨s0,s1,d0,d1,p0,p1,a0,a1,b0,b1⟩:=ho
 refine ofvPt rfl rfl ?_
 (repeat' ((conv=>whnf);first|(with_reducible refine wr_u32 rfl zo zo ?_)|refine zG ?_|apply zA|(apply zI;intro h)|exact zT));(all_goals conv=>whnf)
 exact hK
def inQ(r:Rg)(v:Int):Bool:=decide (r.lo<=v)&&decide (v<=r.hi)
def conB(b:Bx)(h:Hd):Bool:=inQ b.r0 h.src&&(inQ b.r1 h.dst&&(inQ b.r2 h.pro&&(inQ b.r3 h.sp&&(inQ b.r4 h.dp&&decide b.ok))))
theorem conB_iff(b:Bx)(h:Hd):conB b h=true↔(b.r0.lo<=h.src/\h.src<=b.r0.hi)/\(b.r1.lo<=h.dst/\h.dst<=b.r1.hi)/\(b.r2.lo<=h.pro/\h.pro<=b.r2.hi)/\(b.r3.lo<=h.sp/\h.sp<=b.r3.hi)/\(b.r4.lo<=h.dp/\h.dp<=b.r4.hi)/\b.ok:=by
 simp[conB,inQ]
theorem cvCon(b:Bx)(g:Hd)(ho:g.Ok){K:KT}(hK:K (.sb (conB b g)) []):ACall Tryz.prog 70 [encX b,encHd g] [] K:=by
 have hb:=conB_iff b g
 refine ACall.bool (ofvCon rfl rfl ?_)
 (repeat' ((conv=>whnf);first|(with_reducible refine Lp.times 6 ?_)|(refine in_c zd ?_)|(with_reducible first|refine cvPt g ho ?_|refine cr3Val b ?_)|refine zG ?_|apply zA|(apply zI;intro h)|exact zT));(all_goals conv=>whnf)
 all_goals
  first
   |exact fin_f hK (by rw[cA,ne_eq,hb];omega)
   |(refine fin_s hK ?_
     rw[bG,hb]
     simp only[decide_eq_true_iff]
     constructor
     ·intro hh;exact hh.2.2.2.2.2
     ·intro hh;exact⟨by omega,by omega,by omega,by omega,by omega,hh⟩)
   |(refine fin_s hK ?_
     rw[bG,hb]
     simp only[decide_eq_true_iff]
     constructor
     ·intro hh;exact⟨by omega,by omega,by omega,by omega,by omega,hh⟩
     ·intro hh;exact hh.2.2.2.2.2)
theorem cvNum(raw:List Int)(pos:Nat)(top:Int)(t0:0<=top)(t1:top<=4294967295)(hp:pos<=raw.length)(hr:raw.length<=9223372036854775807){K:KT}
  (hK:∀(a:Int) (pos':Nat),0<=a->a<=4294967295->pos'<=raw.length->K (.v (.int .u32 a)) [tapeO raw pos']):ACall Tryz.prog 65 [.op 0 0,.v (.int .u32 top)] [tapeO raw pos] K:=by
 refine ofvNum rfl rfl ?_
 (repeat' ((conv=>whnf);first|(with_reducible first|refine nNext raw _ _ zo zp hr fun m1 p1 hm1 hp1=>?_|refine in_nat zo ?_|refine wr_u32_any fun r r0 r1=>?_)|refine zG ?_|apply zA|(apply zI;intro h)|exact zT));(all_goals conv=>whnf)
 refine ix_all IsU32 ?_ (by simp only[aJ,aO];omega) ?_
 ·simp only[fY]
  (repeat' apply And.intro)<;>first|exact⟨_,rfl,by assumption,by assumption⟩|exact⟨_,rfl,by decide,by decide⟩|(intro _ h;cases h)
 ·rintro _ ⟨y,rfl,y0,y1⟩
  (repeat' ((conv=>whnf);first|refine zG ?_|apply zA|(apply zI;intro h)|exact zT));(all_goals conv=>whnf)
  all_goals exact hK _ _ zo zo zp
end Go.Proofs.YtbdikofefjljoaaGreatDoor
