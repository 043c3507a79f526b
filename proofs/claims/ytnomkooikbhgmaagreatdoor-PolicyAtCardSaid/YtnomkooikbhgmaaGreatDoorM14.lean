/- Lemmas. -/
import Derived.Test.YtnomkooikbhgmaaGreatDoorProg
import Derived.Test.YtnomkooikbhgmaaGreatDoorM13
set_option linter.unusedVariables false
set_option linter.unusedSimpArgs false
set_option maxRecDepth 100000
set_option maxHeartbeats 4000000
noncomputable section
namespace Go.Proofs.YtnomkooikbhgmaaGreatDoor
open Go Go.Vm
structure PSet (l:List Bx):Prop where
 len:l.length<=4096
 cn:Cn 5 l
theorem pset_nil:PSet []:=⟨aK _,Cn.nil 5⟩
theorem room1(op:Bool->Bool->Bool){s b:List Bx}(h:PSet s)(hb:b.length<=20):(cano op 5 s b).length<=900000000000:=by
 have h1:=bound1 op b.length 5 s b (aM _) h.cn (aM _);have h2:(2*b.length+3)^5<=43^5:=Nat.pow_le_pow_left zo 5;have h3:(s.length+1)*(2*b.length+3)^5<=4097*43^5:=dV (by have:=h.len;omega) h2;have h4:4097*43^5<=900000000000:=by decide
 omega
theorem room2(op:Bool->Bool->Bool){s b:List Bx}(h:PSet s)(hb:PSet b):(cano op 5 s b).length<=900000000000:=by
 have h1:=bound2 op 5 s b (aM _) h.cn hb.cn;have h3:6^5*((s.length+1)*(b.length+1))<=6^5*(4097*4097):=dS _ (dV (by have:=h.len;omega) (by have:=hb.len;omega));have h4:6^5*(4097*4097)<=900000000000:=by decide
 omega
theorem vldB_all{l:List Bx}(h:(vldB l).length=l.length):∀x,x∈l->x.ok:=by
 have:=List.length_filter_eq_length_iff.1 h;intro x hx;simpa using this x hx
theorem ok_get{x:Bx}(h:x.ok):∀f,f<=4->(x.get f).lo<=(x.get f).hi/\(x.get f).hi<=topF f:=by
 obtain⟨h0,h1,h2,h3,h4⟩:=h;intro f hf;rcases f with _|_|_|_|_|f
 all_goals first|assumption|omega
theorem setB_same{l:List Bx}(h:setB l=true):cano orB 5 l []=l:=by
 unfold setB at h;simp only[aJ,aL]at h;obtain⟨h1,h2,h3⟩:=h;have hv:=vldB_all h2;have:=(canB_iff 5 l (aM _) (fun x hx f hf _=>ok_get (hv x hx) f hf) zo).1 h3;rw[this];exact(eA fun x _=>zeroTo_five x).trans (List.map_id _)
theorem setB_pset{l:List Bx}(h:setB l=true):PSet l:=by
 refine⟨?_,?_⟩
 ·unfold setB at h;simp only[aJ,aL]at h;exact h.1
 ·rw[<-setB_same h];exact cano_cn orB 5 l [] (aM _)
theorem cano_pset{op:Bool->Bool->Bool}{a b:List Bx}(h:(cano op 5 a b).length<=4096):PSet (cano op 5 a b):=⟨h,cano_cn op 5 a b (aM _)⟩
theorem makeGo_pset:∀(l s:List Bx),PSet s->PSet (makeGo s l).1
 |[],s,h=>h
 |b::l,s,h=>by
  rw[makeGo];split
  ·split
   ·exact pset_nil
   ·exact makeGo_pset l _ (cano_pset (by unfold addO at*;omega))
  ·exact makeGo_pset l s h
theorem makeP_pset(l:List Bx):PSet (makeP l).1:=makeGo_pset l [] pset_nil
theorem limE_ne{l:List Bx}:limE l≠0↔4096<l.length:=by
 unfold limE;split
 ·simp;omega
 ·simp;omega
theorem cr4Make(l:List Bx)(hl:l.length<1000000000){K:KT}(hK:K (.tup [encXs (makeP l).1,.v (.int .i64 (makeP l).2)]) []):AC 98 [encXs l] [] K:=by
 refine gP (ofr4Make rfl rfl ?_);(repeat' ((conv=>whnf);first|refine zG ?_|apply zA|intro h|exact zT));all_goals conv=>whnf
 refine gL (Nat×List Bx) (fun g=>⟨0,[],[(0,encXs l),(4,encXs g.2),(5,.v (.int .i64 g.1))]⟩) (fun g=>g.1<=l.length/\PSet g.2/\makeP l=makeGo g.2 (l.drop g.1)) (fun g=>l.length-g.1) (0,[]) ⟨aK _,pset_nil,by rw[bZ];rfl⟩ ?_ ?_
 ·exact leA
 rintro⟨i,s⟩ ⟨hi,hs,hm⟩
 simp only at hi hs hm⊢;rcases aF i l.length with hil|hil
 ·obtain⟨x,hx⟩:=gex hil;have hd:l.drop i=x::l.drop (i+1):=by
   rw[aE hil]at hx;rw[<-bE hx,<-bB hil]
  rw[hd,makeGo]at hm;have hsl:∀{K:List AV->Prop},K ([x].map encX)->Sl (l.map encX) i (i+1-i) K:=fun {K} h=>by
   refine sl_map zo ?_;rw[fE,hd];exact h
  have hadd:∀{K:KT},K (encXs (addO s x)) []->AC 184 [encXs s,encXs [x],.v (.int .i64 0),.v (.int .i64 0)] [] K:=fun h=>cr4Rests 0 5 (aM _) s [x] (by have:=hs.len;simp only[aB,aH];omega) (room1 _ hs zx) (by rw[opI_0];exact h);(repeat' ((conv=>whnf);first|(with_reducible first|refine hU hil ?_|refine hJ hx ?_|refine cr3Val x ?_|refine gY i (i+1) rfl zo zo (by rw[aA];omega) ?_|refine hsl ?_|refine hadd ?_|refine cr4Lim (addO s x) ?_)|refine zG ?_|apply zA|intro h|exact zT));all_goals conv=>whnf
  ·rename_i hb;have he:=h;have hlen:¬4096<(addO s x).length:=fun h=>limE_ne.2 h he;rw[aG hb,aD hlen]at hm;refine⟨(i+1,addO s x),⟨hil,cano_pset (by unfold addO at hlen;omega),hm⟩,by omega,?_⟩;rw[show limP (addO s x)=addO s x from by unfold limP;rw[aD hlen]];dsimp only;rw[aO,aN];exact leA
  ·rename_i hb;have hne:=h;rw[aG hb,aG (limE_ne.1 hne)]at hm;rw[hm]at hK;have h3:limE (addO s x)=3:=by
    unfold limE at hne⊢;split<;>simp_all
   rw[h3];exact⟨_,gQ gR gM,hK⟩
  ·have hb:=h;rw[aD hb]at hm;refine⟨(i+1,s),⟨hil,hs,hm⟩,by dsimp only;omega,?_⟩;dsimp only;rw[aO,aN];exact leA
 ·rw[bU hil,makeGo]at hm;rw[hm]at hK;(repeat' ((conv=>whnf);first|refine zG ?_|apply zA|intro h|exact zT));all_goals conv=>whnf
  exact⟨_,gM,hK⟩
def givP(l:List Bx):List Bx×Int:=if setB l then(l,0)else makeP l
theorem givP_pset(l:List Bx):PSet (givP l).1:=by
 unfold givP;split
 ·exact setB_pset zp
 ·exact makeP_pset l
theorem cr4Giv(l:List Bx)(hl:l.length<1000000000){K:KT}(hK:K (.tup [encXs (givP l).1,.v (.int .i64 (givP l).2)]) []):AC 186 [encXs l] [] K:=by
 refine gP (ofr4Giv rfl rfl ?_);unfold givP at hK;(repeat' ((conv=>whnf);first|(with_reducible first|refine cr4Vald l hl ?_|refine cr4Make l hl ?_)|refine zG ?_|apply zA|intro h|exact zT));all_goals conv=>whnf
 all_goals simp_all
 all_goals exact⟨_,gM,hK⟩
def combP(op:Bool->Bool->Bool)(a b:List Bx):List Bx×Int:=
 if(givP a).2≠0 then([],(givP a).2)else if(givP b).2≠0 then([],(givP b).2)else(limP (cano op 5 (givP a).1 (givP b).1),limE (cano op 5 (givP a).1 (givP b).1))
theorem cr4Comb(c:Int)(a b:List Bx)(ha:a.length<1000000000)(hb:b.length<1000000000){K:KT}(hK:K (.tup [encXs (combP (opI c) a b).1,.v (.int .i64 (combP (opI c) a b).2)]) []):AC 101 [encXs a,encXs b,.v (.int .i64 c)] [] K:=by
 refine gP (ofr4Comb rfl rfl ?_);unfold combP at hK;have hr:∀{K:KT},K (encXs (cano (opI c) 5 (givP a).1 (givP b).1)) []->AC 184 [encXs (givP a).1,encXs (givP b).1,.v (.int .i64 c),.v (.int .i64 0)] [] K:=fun h=>cr4Rests c 5 (aM _) _ _ (by have:=(givP_pset a).len;have:=(givP_pset b).len;omega) (room2 _ (givP_pset a) (givP_pset b)) h;(repeat' ((conv=>whnf);first|(with_reducible first|refine cr4Giv a ha ?_|refine cr4Giv b hb ?_|refine hr ?_|refine cr4Lim _ ?_)|refine zG ?_|apply zA|intro h|exact zT));all_goals conv=>whnf
 all_goals simp_all
 all_goals first|exact⟨_,gM,hK⟩|exact⟨_,gQ gR gM,hK⟩
theorem cr4Canon(l:List Bx)(hl:l.length<50000)(hr:(cano orB 5 (vldB l) []).length<=900000000000){K:KT}(hK:K (encXs (cano orB 5 (vldB l) [])) []):AC 185 [encXs l] [] K:=by
 refine gP (ofr4Canon rfl rfl ?_);have hq:∀{K:KT},K (encXs (cano orB 5 (vldB l) [])) []->AC 184 [encXs (vldB l),.lst [],.v (.int .i64 0),.v (.int .i64 0)] [] K:=fun h=>cr4Rests 0 5 (aM _) _ [] (by have:=vldB_len l;simp only[aH];omega) (by rw[opI_0];exact hr) (by rw[opI_0];exact h);(repeat' ((conv=>whnf);first|(with_reducible first|refine cr4Val l zo ?_|refine hq ?_)|refine zG ?_|apply zA|intro h|exact zT));all_goals conv=>whnf
 exact⟨_,gM,hK⟩
def endsB(f:Nat)(l:List Bx):List Int:=l.flatMap fun x=>[(x.get f).lo,(x.get f).hi+1]
theorem endsB_mem{f:Nat}{l:List Bx}{z:Int}:z∈endsB f l↔∃x,x∈l/\(z=(x.get f).lo\/z=(x.get f).hi+1):=by
 simp[endsB]
theorem sorted_lt_last{st:List Int}{z:Int}(h:(st++[z]).Pairwise (· < ·)):∀x,x∈st->x<z:=fun x hx=>(dK.1 h).2.2 x hx z zx
theorem cuts_of{f:Nat}{a b:List Bx}(hab:∀x,x∈a\/x∈b->(x.get f).lo<=(x.get f).hi/\(x.get f).hi<=topF f){st':List Int}(hs:st'.Pairwise (· < ·))(hm:∀z,z∈st'↔z=0\/z=topF f+1\/z∈endsB f a\/z∈endsB f b):
  ∃st,st'=st++[topF f+1]/\Cuts (topF f) (rngs f a b) st:=by
 have ht:=topF_pos f;have hends:∀z,z∈endsB f a\/z∈endsB f b->0<=z/\z<=topF f+1:=by
  intro z hz;have:∃x,(x∈a\/x∈b)/\(z=(x.get f).lo\/z=(x.get f).hi+1):=by
   rcases hz with hz|hz
   ·obtain⟨x,h1,h2⟩:=endsB_mem.1 hz;exact⟨x,.inl h1,h2⟩
   ·obtain⟨x,h1,h2⟩:=endsB_mem.1 hz;exact⟨x,.inr h1,h2⟩
  obtain⟨x,h1,h2⟩:=this;have:=hab x h1;have:=(x.get f).l0;omega
 have hb:∀z,z∈st'->0<=z/\z<=topF f+1:=by
  intro z hz;rcases(hm z).1 hz with h|h|h
  ·omega
  ·omega
  ·exact hends z h
 have htop:topF f+1∈st':=(hm _).2 (.inr (.inl rfl));have hzero:(0:Int)∈st':=(hm _).2 (.inl rfl);rcases cQ st' with hn|⟨st,z,hc⟩
 ·rw[hn]at htop;cases htop
 rw[cR]at hc;subst hc;have hlt:=sorted_lt_last hs;have hz:z=topF f+1:=by
  rcases aX.1 htop with h|h
  ·have:=hlt _ h;have:=hb z zx;omega
  ·simp at h;exact h.symm
 subst hz;have hin:∀z,z∈st++[topF f+1]->z<=topF f->z∈st:=by
  intro z hz hle;rcases aX.1 hz with h|h
  ·exact h
  ·simp at h;omega
 refine⟨st,rfl,?_,?_,?_,?_⟩
 ·exact(dK.1 hs).1
 ·intro x hx;have:=hlt x hx;have:=hb x (aX.2 (.inl hx));omega
 ·have h0:=hin 0 hzero ht.1;cases st with
  |nil=>cases h0
  |cons y r=>
   refine⟨r,?_⟩;have hp:=(dK.1 hs).1;rcases aU.1 h0 with h|h
   ·rw[h]
   ·have:=(bT.1 hp).1 0 h;have:=hb y zx;omega
 ·intro r hr hle;have:∃x,(x∈a\/x∈b)/\r=x.get f:=by
   rw[rngs]at hr;rcases aX.1 hr with h|h
   ·obtain⟨x,h1,rfl⟩:=cD.1 h;exact⟨x,.inl h1,rfl⟩
   ·obtain⟨x,h1,rfl⟩:=cD.1 h;exact⟨x,.inr h1,rfl⟩
  obtain⟨x,hx,rfl⟩:=this;have e1:(x.get f).lo∈st++[topF f+1]:=(hm _).2 (.inr (.inr (hx.imp (fun h=>endsB_mem.2 ⟨x,h,.inl rfl⟩) (fun h=>endsB_mem.2 ⟨x,h,.inl rfl⟩))));have e2:(x.get f).hi+1∈st++[topF f+1]:=(hm _).2 (.inr (.inr (hx.imp (fun h=>endsB_mem.2 ⟨x,h,.inr rfl⟩) (fun h=>endsB_mem.2 ⟨x,h,.inr rfl⟩))));exact⟨fun h=>hin _ e1 h,fun h=>hin _ e2 h⟩
theorem segTo_next{top:Int}{st:List Int}{i:Nat}(h:i<st.length):(st++[top+1])[i+1]? =some (segTo top st i+1):=by
 unfold segTo;rcases aF (i+1) st.length with h1|h1
 ·rw[bD h1,aE h1];simp
 ·rw[bG h1,bO h1,show i+1-st.length=0 by omega];rfl
theorem grow_head{x t:Int}{rest:List Bx}{out:List (Grp (List Bx))}(s:Int×Int)(r:List Bx)(h:∃hi more,out=⟨x,hi,rest⟩::more):∃hi more,grow eqB out s r=⟨x,hi,rest⟩::more:=by
 obtain⟨hi,more,rfl⟩:=h;unfold grow;split
 ·exact⟨hi,more,rfl⟩
 ·rcases cQ more with hn|⟨ini,g,hc⟩
  ·subst hn;simp only[cE];split
   ·exact⟨s.2,[],rfl⟩
   ·exact⟨hi,_,rfl⟩
  ·rw[cR]at hc;subst hc;rw[show(⟨x,hi,rest⟩::(ini++[g]):List (Grp (List Bx)))=(⟨x,hi,rest⟩::ini)++[g]from rfl];simp only[cU,cE,dO,dG];split
   ·exact⟨hi,_,rfl⟩
   ·exact⟨hi,_,rfl⟩
theorem fold_head{R:Int->List Bx}{x:Int}{rest:List Bx}:∀(l:List (Int×Int)) (out:List (Grp (List Bx))),(∃hi more,out=⟨x,hi,rest⟩::more)->∃hi more,l.foldl (fun out s=>grow eqB out s (R s.1)) out=⟨x,hi,rest⟩::more
 |[],out,h=>h
 |s::l,out,h=>fold_head l _ (grow_head (t:=0) s (R s.1) h)
theorem gsAt_nil{R:Int->List Bx}{top:Int}{st:List Int}:∀(i:Nat),(∀(j:Nat) x,j<i->st[j]? =some x->R x=[])->gsAt R top st i=[]
 |0,_=>rfl
 |i+1,h=>by
  have ih:=gsAt_nil (R:=R) (top:=top) i fun j x hj hx=>h j x zo hx;cases hx:st[i]? with
  |none=>
   have hl:st.length<=i:=List.getElem?_eq_none_iff.1 hx;rw[gsAt_all zo,<-gsAt_all hl,ih]
  |some x=>rw[gsAt_succ hx,ih,h i x zo hx,grow_nil]
theorem groups_first{R:Int->List Bx}{top:Int}{st:List Int}{i:Nat}{x:Int}(hx:st[i]? =some x)(hne:R x≠[])(h:∀(j:Nat) y,j<i->st[j]? =some y->R y=[]):∃hi more,groupsOf R top st=⟨x,hi,R x⟩::more:=by
 have e:groupsOf R top st=((segs top st).drop (i+1)).foldl (fun out s=>grow eqB out s (R s.1)) (gsAt R top st (i+1)):=by
  rw[groupsOf,gsAt,<-List.foldl_append,cO]
 rw[e];refine fold_head _ _ ?_;rw[gsAt_succ hx,gsAt_nil i h];refine⟨segTo top st i,[],?_⟩;unfold grow;have:(R x).isEmpty=false:=by cases hR:R x with
  |nil=>exact absurd hR hne
  |cons=>rfl
 rw[aD (by rw[this];decide)];rfl
def lows(l:List Bx):Nat->Int:=match l with
 |[]=>fun _=>0
 |b::_=>fun f=>(b.get f).lo
theorem lows_cano{op:Bool->Bool->Bool}{k:Nat}(hk:k<=4){a b:List Bx}{st:List Int}(hc:Cuts (topF (4-k)) (rngs (4-k) a b) st){i:Nat}{x:Int}(hx:st[i]? =some x)(hne:restAt op k a b x≠[])(h:∀(j:Nat) y,j<i->st[j]? =some y->restAt op k a b y=[]):
  cano op (k+1) a b≠[]/\lows (cano op (k+1) a b) (4-k)=x/\∀f,f<=4->f≠4-k->lows (cano op (k+1) a b) f=lows (restAt op k a b x) f:=by
 obtain⟨hi,more,hg⟩:=groups_first (top:=topF (4-k)) hx hne h;have inv:=cano_ginv op k a b hc;rw[cano_any op k a b hc,hg];rw[hg]at inv;have hle:=inv.wf.head;have hr:=hc.range x (aI hx);have hhi:=inv.low ⟨x,hi,restAt op k a b x⟩ zx;have ht:=topF_pos (4-k);simp only at hhi hle;obtain⟨y,ys,hy⟩:∃y ys,restAt op k a b x=y::ys:=by
  cases hR:restAt op k a b x with
  |nil=>exact absurd hR hne
  |cons y ys=>exact⟨y,ys,rfl⟩
 rw[hy];refine⟨by simp[flatG],?_,fun f hf hn=>?_⟩
 ·show((y.put (4-k) (mkR x hi)).get (4-k)).lo=x;rw[get_put zo,mkR_lo zo zo zo zo]
 ·show((y.put (4-k) (mkR x hi)).get f).lo=(y.get f).lo;rw[get_put_ne zo hf hn]
def InP(p:Nat->Int):Prop:=∀f,0<=p f/\p f<=topF f
theorem inP_zero:InP fun _=>0:=fun f=>⟨cI _,(topF_pos f).1⟩
theorem GInv.congr{β:Type}{R R':Int->List β}{l:List (Grp (List β))}{e:Int}(h:GInv R l e)(hR:∀v,0<=v->v<e->R v=R' v):GInv R' l e:=
 ⟨h.wf,fun v=>by
  rw[h.at_];by_cases hv:0<=v/\v<e
  ·rw[aG hv,aG hv,lab,lab,hR v hv.1 hv.2]
  ·rw[aD hv,aD hv],h.low,h.full⟩
theorem inK_congr{p q:Nat->Int}:∀(k:Nat) (b:Bx),k<=5->(∀f,f<=4->5<=f+k->p f=q f)->inK p k b=inK q k b
 |0,b,_,_=>rfl
 |k+1,b,hk,h=>by
  rw[inK,inK,h (4-k) zo zo,inK_congr k b zo fun f hf h5=>h f hf zo]
theorem memK_congr{p q:Nat->Int}{k:Nat}{l:List Bx}(hk:k<=5)(h:∀f,f<=4->5<=f+k->p f=q f):memK p k l=memK q k l:=by
 rw[memK,memK]
 induction l with
 |nil=>rfl
 |cons b l ih=>rw[List.any_cons,List.any_cons,ih,inK_congr k b hk h]
theorem inK_iff{p:Nat->Int}{b:Bx}:inK p 5 b=true↔∀f,f<=4->(b.get f).lo<=p f/\p f<=(b.get f).hi:=by
 simp only[inK,aJ,aL,and_true];constructor
 ·rintro h f hf
  obtain rfl|rfl|rfl|rfl|rfl:f=0\/f=1\/f=2\/f=3\/f=4:=by omega
  all_goals simp_all
 ·intro h;have h0:=h 0 zo;have h1:=h 1 zo;have h2:=h 2 zo;have h3:=h 3 zo;have h4:=h 4 zo;simp_all
theorem memK_iff{p:Nat->Int}{l:List Bx}:memK p 5 l=true↔∃b,b∈l/\inK p 5 b=true:=by rw[memK,dJ]
theorem inP_of{p:Nat->Int}(h:∀f,f<=4->0<=p f/\p f<=topF f):∃q,InP q/\∀f,f<=4->q f=p f:=by
 refine⟨fun f=>if f<=4 then p f else 0,fun f=>?_,fun f hf=>by simp only[hf,if_true]⟩;by_cases hf:f<=4
 ·simp only[hf,if_true];exact h f hf
 ·simp only[hf,if_false];exact⟨cI _,(topF_pos f).1⟩
theorem box_point{b:Bx}(h:∀f,f<=4->(b.get f).lo<=(b.get f).hi/\(b.get f).hi<=topF f):∃p,InP p/\inK p 5 b=true:=by
 obtain⟨q,hq,he⟩:=inP_of (p:=fun f=>(b.get f).lo) fun f hf=>⟨(b.get f).l0,by have:=h f hf;omega⟩
 refine⟨q,hq,?_⟩;rw[inK_iff];intro f hf;rw[he f hf];exact⟨cI _,(h f hf).1⟩
theorem cano_nil_mem(op:Bool->Bool->Bool)(a b:List Bx):cano op 5 a b=[]↔∀p,InP p->op (memK p 5 a) (memK p 5 b)=false:=by
 constructor
 ·intro h p hp;rw[<-cano_mem op hp 5 a b (aM _),h];rfl
 ·intro h;cases hc:cano op 5 a b with
  |nil=>rfl
  |cons x l=>
   exfalso;have hx:=okK_get (aM 5) (cano_ok op 5 a b (aM _) x (by rw[hc];simp));obtain⟨p,hp,hi⟩:=box_point (b:=x) fun f hf=>by have:=hx f hf;rw[aG zo]at this;exact this
   have:=cano_mem op hp 5 a b (aM _);rw[h p hp,hc,memK,List.any_cons,hi]at this;cases this
def woB(x y:Bool):Bool:=x&& !y
def anB(x y:Bool):Bool:=x&&y
def subS(a b:List Bx):Prop:=∀p,InP p->memK p 5 a=true->memK p 5 b=true
theorem cano_sub(a b:List Bx):cano woB 5 a b=[]↔subS a b:=by
 rw[cano_nil_mem];constructor
 ·intro h p hp ha;have:=h p hp;rw[woB,ha]at this;simpa using this
 ·intro h p hp;rw[woB];cases ha:memK p 5 a with
  |false=>rfl
  |true=>rw[h p hp ha];rfl
def meetX(x y:Bx):Prop:=∀f,f<=4->(x.get f).lo<=(y.get f).hi/\(y.get f).lo<=(x.get f).hi
theorem cano_disj{a b:List Bx}(ha:∀x,x∈a->∀f,f<=4->(x.get f).lo<=(x.get f).hi/\(x.get f).hi<=topF f)(hb:∀x,x∈b->∀f,f<=4->(x.get f).lo<=(x.get f).hi/\(x.get f).hi<=topF f):
  cano anB 5 a b=[]↔∀x,x∈a->∀y,y∈b->¬meetX x y:=by
 rw[cano_nil_mem];constructor
 ·intro h x hx y hy hm;obtain⟨q,hq,he⟩:=inP_of (p:=fun f=>max (x.get f).lo (y.get f).lo) fun f hf=>by
   have:=ha x hx f hf;have:=hb y hy f hf;have:=hm f hf;have:=(x.get f).l0;omega
  have h1:memK q 5 a=true:=memK_iff.2 ⟨x,hx,inK_iff.2 fun f hf=>by
   have:=ha x hx f hf;have:=hb y hy f hf;have:=hm f hf;rw[he f hf];omega⟩
  have h2:memK q 5 b=true:=memK_iff.2 ⟨y,hy,inK_iff.2 fun f hf=>by
   have:=ha x hx f hf;have:=hb y hy f hf;have:=hm f hf;rw[he f hf];omega⟩
  have:=h q hq;rw[h1,h2]at this;cases this
 ·intro h p hp;cases h1:memK p 5 a with
  |false=>rfl
  |true=>
   cases h2:memK p 5 b with
   |false=>rfl
   |true=>
    obtain⟨x,hx,hix⟩:=memK_iff.1 h1;obtain⟨y,hy,hiy⟩:=memK_iff.1 h2;exact absurd (fun f hf=>by
     have:=inK_iff.1 hix f hf;have:=inK_iff.1 hiy f hf;omega) (h x hx y hy)
theorem opI_1:opI 1=anB:=by funext x y;rfl
theorem opI_2:opI 2=woB:=by funext x y;rfl
theorem cr4Int(a b:List Bx)(ha:a.length<1000000000)(hb:b.length<1000000000){K:KT}(hK:K (.tup [encXs (combP anB a b).1,.v (.int .i64 (combP anB a b).2)]) []):AC 39 [encXs a,encXs b] [] K:=by
 have hc:∀{K:KT},K (.tup [encXs (combP anB a b).1,.v (.int .i64 (combP anB a b).2)]) []->AC 101 [encXs a,encXs b,.v (.int .i64 1)] [] K:=fun h=>cr4Comb 1 a b ha hb (by rw[opI_1];exact h);refine ofr4Int rfl rfl ?_;(repeat' ((conv=>whnf);first|(with_reducible refine hc ?_)|refine zG ?_|apply zA|intro h|exact zT));all_goals conv=>whnf
 exact hK
theorem cr4Un(a b:List Bx)(ha:a.length<1000000000)(hb:b.length<1000000000){K:KT}(hK:K (.tup [encXs (combP orB a b).1,.v (.int .i64 (combP orB a b).2)]) []):AC 41 [encXs a,encXs b] [] K:=by
 have hc:∀{K:KT},K (.tup [encXs (combP orB a b).1,.v (.int .i64 (combP orB a b).2)]) []->AC 101 [encXs a,encXs b,.v (.int .i64 0)] [] K:=fun h=>cr4Comb 0 a b ha hb (by rw[opI_0];exact h);refine ofr4Un rfl rfl ?_;(repeat' ((conv=>whnf);first|(with_reducible refine hc ?_)|refine zG ?_|apply zA|intro h|exact zT));all_goals conv=>whnf
 exact hK
theorem cr4Sub(a b:List Bx)(ha:a.length<1000000000)(hb:b.length<1000000000){K:KT}(hK:K (.tup [encXs (combP woB a b).1,.v (.int .i64 (combP woB a b).2)]) []):AC 40 [encXs a,encXs b] [] K:=by
 have hc:∀{K:KT},K (.tup [encXs (combP woB a b).1,.v (.int .i64 (combP woB a b).2)]) []->AC 101 [encXs a,encXs b,.v (.int .i64 2)] [] K:=fun h=>cr4Comb 2 a b ha hb (by rw[opI_2];exact h);refine ofr4Sub rfl rfl ?_;(repeat' ((conv=>whnf);first|(with_reducible refine hc ?_)|refine zG ?_|apply zA|intro h|exact zT));all_goals conv=>whnf
 exact hK
theorem cr4Same(a b:List Bx)(ha:a.length<1000000000000)(hb:b.length<1000000000000){K:KT}(hK:K (.sb (decide (a=b))) []):AC 43 [encXs a,encXs b] [] K:=by
 refine ofr4Same rfl rfl ?_;(repeat' ((conv=>whnf);first|(with_reducible refine cr3Same a b ha hb ?_)|refine zG ?_|apply zA|intro h|exact zT));all_goals conv=>whnf
 exact hK
def fb(p0 p1 s0 s1 d0 d1:Int):Bx:=⟨mkR 0 4294967295,mkR 0 4294967295,mkR p0 p1,mkR s0 s1,mkR d0 d1⟩
def initR:List Bx:=[fb 0 0 0 0 0 0,fb 2 5 0 0 0 0,fb 7 16 0 0 0 0,fb 18 255 0 0 0 0,fb 6 6 0 65535 0 65535,fb 17 17 0 65535 0 65535,fb 1 1 0 7 8 8,fb 1 1 9 65535 8 8]
def initS:List Bx:=[fb 0 0 0 0 0 0,fb 1 1 0 7 8 8,fb 1 1 9 65535 8 8,fb 2 5 0 0 0 0,fb 6 6 0 65535 0 65535,fb 7 16 0 0 0 0,fb 17 17 0 65535 0 65535,fb 18 255 0 0 0 0]
theorem init_canon:cano orB 5 (vldB initR) []=initS:=by decide+kernel
theorem cr4Init{K:KT}(hK:K (encXs initS) []):AC 99 [] [] K:=by
 have hc:∀{K:KT},K (encXs initS) []->AC 185 [encXs initR] [] K:=fun h=>cr4Canon initR zd (by rw[init_canon];decide) (by rw[init_canon];exact h);refine ofr4Init rfl rfl ?_;(repeat' ((conv=>whnf);first|(with_reducible refine Lp.times 6 ?_)|(refine in_c zd ?_)|(refine gU rfl ?_)|(with_reducible refine cr3Full ?_)|(refine hc ?_)|refine zG ?_|apply zA|intro h|exact zT));all_goals conv=>whnf
 exact hK
def okL(l:List Bx):Prop:=∀x,x∈l->∀f,f<=4->(x.get f).lo<=(x.get f).hi/\(x.get f).hi<=topF f
theorem okL_at{f:Nat}{v:Int}{l:List Bx}(h:okL l):okL (atF f v l):=fun x hx=>h x (cJ.1 hx).1
theorem okL_nil:okL []:=fun x hx=>by simp at hx
theorem okL_cano(op:Bool->Bool->Bool)(a b:List Bx):okL (cano op 5 a b):=fun x hx f hf=>by
 have:=okK_get (aM 5) (cano_ok op 5 a b (aM _) x hx) f hf;rw[aG zo]at this;exact this
theorem okL_vld(l:List Bx):okL (vldB l):=fun x hx=>ok_get (by simpa using(cJ.1 hx).2)
theorem okL_set{l:List Bx}(h:setB l=true):okL l:=by
 rw[<-setB_same h];exact okL_cano orB l []
theorem okL_makeGo:∀(l s:List Bx),okL s->okL (makeGo s l).1
 |[],s,h=>h
 |b::l,s,h=>by
  rw[makeGo];split
  ·split
   ·exact okL_nil
   ·exact okL_makeGo l _ (okL_cano _ _ _)
  ·exact okL_makeGo l s h
theorem okL_giv(l:List Bx):okL (givP l).1:=by
 unfold givP;split
 ·exact okL_set zp
 ·exact okL_makeGo l [] okL_nil
def guComp:Ctx:={N:=14,plan:=p1 1 (ln [1,2,5,7,13,15,17,8,11,19,21,23]) pn}
abbrev ofuComp:=ofD guComp Tryz.func34
def gnAddr:Ctx:={N:=40,np:=1,own:=oz [11],plan:=p1 5 (lz [1,5,9,15,21,29] (.wch 1 (.wch 3 (.wch 5 (lz [13] (.wch 8 (lz [19] (.wch 11 (lz [25] (.alt 13 (ln [30,33,35,37]) (.alt 15 (ln [26,33,35,37]) Aa))))))))))) pn}
abbrev ofnAddr:=ofD gnAddr Tryz.func47
def gtComp:Ctx:={N:=11}
abbrev oftComp:=ofD gtComp Tryz.func73
def gtCom1:Ctx:={N:=5}
abbrev oftCom1:=ofD gtCom1 Tryz.func144
def ganyEdge:Ctx:={N:=9}
abbrev ofanyEdge:=ofD ganyEdge Tryz.func143
def sEq(a b:ByteArray):Bool:=a.toList==b.toList
def devIx(l:List Dv)(n:ByteArray):Int:=firstIx (fun d=>sEq d.name n) l
def edgeIx(l:List Ed)(n:ByteArray):Int:=firstIx (fun d=>sEq d.name n) l
theorem ctDev1(d:Dv)(n:ByteArray){K:KT}(hK:K (.sb (sEq d.name n)) []):AC 283 [encD d,.fp [.v (.string n)]] [] K:=by
 refine oftDev1 rfl rfl ?_
 iterate 9 (all_goals((conv=>whnf);first|refine zG ?_|apply zA|intro h|exact zT|skip))
 exact hK
theorem ctDev(t:Tp)(n:ByteArray)(hl:t.devs.length<1000000){K:KT}(hK:K (.v (.int .i64 (devIx t.devs n))) []):AC 212 [encT t,.v (.string n)] [] K:=by
 refine oftDev rfl rfl ?_
 iterate 9 (all_goals((conv=>whnf);first|(with_reducible refine cixDev _ _ _ (fun d=>sEq d.name n) (fun x K h=>ctDev1 x n h) hl ?_)|refine zG ?_|apply zA|intro h|exact zT|skip))
 exact hK
theorem cuDev(t:Tp)(n:ByteArray)(hl:t.devs.length<1000000){K:KT}(hK:K (.v (.int .i64 (devIx t.devs n))) []):AC 238 [encT t,.v (.string n)] [] K:=by
 refine ofuDev rfl rfl ?_
 iterate 4 (all_goals((conv=>whnf);first|refine zG ?_|apply zA|intro h|exact zT|skip))
 refine gL Nat (fun k=>⟨1,[(0,.box [.lst (t.devs.map encD),.lst (t.links.map encL),.lst (t.edges.map encE),.lst (t.pools.map encP),.v (.int .i64 t.tol)])],[(1,.v (.string n)),(2,.op 0 0),(5,.v (.int .i64 k))]⟩) (fun k=>k<=t.devs.length/\∀(i:Nat) y,i<k->t.devs[i]? =some y->sEq y.name n=false) (fun k=>t.devs.length-k) 0 ?_ ?_ ?_
 ·exact⟨aK _,fun i y hi=>absurd hi (bC _)⟩
 ·exact⟨[(0,0)],rfl,⟨rfl,rfl,rfl,trivial⟩,rfl,trivial⟩
 ·intro k ⟨hk,hinv⟩;rcases aF k t.devs.length with hkl|hkl
  ·obtain⟨r,hr⟩:=gex hkl
   iterate 14 (all_goals((conv=>whnf);first|(with_reducible first|refine hU hkl ?_|refine hJ hr ?_)|refine zG ?_|apply zA|intro h|exact zT|skip))
   ·rw[devIx,firstIx_at hr h hinv]at hK;exact hK
   ·exact⟨k+1,⟨by omega,before_succ hr h hinv⟩,by omega,⟨[(0,0)],rfl,⟨rfl,rfl,rfl,trivial⟩,rfl,trivial⟩⟩
  ·iterate 8 (all_goals((conv=>whnf);first|refine zG ?_|apply zA|intro h|exact zT|skip))
   rw[devIx,firstIx_none (iB hkl hinv)]at hK;exact hK
theorem ctEdge1(d:Ed)(n:ByteArray){K:KT}(hK:K (.sb (sEq d.name n)) []):AC 227 [encE d,.fp [.v (.string n)]] [] K:=by
 refine oftEdge1 rfl rfl ?_
 iterate 9 (all_goals((conv=>whnf);first|refine zG ?_|apply zA|intro h|exact zT|skip))
 exact hK
theorem ctEdge(t:Tp)(n:ByteArray)(hl:t.edges.length<1000000){K:KT}(hK:K (.v (.int .i64 (edgeIx t.edges n))) []):AC 148 [encT t,.v (.string n)] [] K:=by
 refine oftEdge rfl rfl ?_
 iterate 9 (all_goals((conv=>whnf);first|(with_reducible refine cixEdge _ _ _ (fun d=>sEq d.name n) (fun x K h=>ctEdge1 x n h) hl ?_)|refine zG ?_|apply zA|intro h|exact zT|skip))
 exact hK
theorem cuEdge(t:Tp)(n:ByteArray)(hl:t.edges.length<1000000){K:KT}(hK:K (.v (.int .i64 (edgeIx t.edges n))) []):AC 96 [encT t,.v (.string n)] [] K:=by
 refine ofuEdge rfl rfl ?_
 iterate 4 (all_goals((conv=>whnf);first|refine zG ?_|apply zA|intro h|exact zT|skip))
 refine gL Nat (fun k=>⟨1,[(0,.box [.lst (t.devs.map encD),.lst (t.links.map encL),.lst (t.edges.map encE),.lst (t.pools.map encP),.v (.int .i64 t.tol)])],[(1,.v (.string n)),(2,.op 0 0),(5,.v (.int .i64 k))]⟩) (fun k=>k<=t.edges.length/\∀(i:Nat) y,i<k->t.edges[i]? =some y->sEq y.name n=false) (fun k=>t.edges.length-k) 0 ?_ ?_ ?_
 ·exact⟨aK _,fun i y hi=>absurd hi (bC _)⟩
 ·exact⟨[(0,0)],rfl,⟨rfl,rfl,rfl,trivial⟩,rfl,trivial⟩
 ·intro k ⟨hk,hinv⟩;rcases aF k t.edges.length with hkl|hkl
  ·obtain⟨r,hr⟩:=gex hkl
   iterate 14 (all_goals((conv=>whnf);first|(with_reducible first|refine hU hkl ?_|refine hJ hr ?_)|refine zG ?_|apply zA|intro h|exact zT|skip))
   ·rw[edgeIx,firstIx_at hr h hinv]at hK;exact hK
   ·exact⟨k+1,⟨by omega,before_succ hr h hinv⟩,by omega,⟨[(0,0)],rfl,⟨rfl,rfl,rfl,trivial⟩,rfl,trivial⟩⟩
  ·iterate 8 (all_goals((conv=>whnf);first|refine zG ?_|apply zA|intro h|exact zT|skip))
   rw[edgeIx,firstIx_none (iB hkl hinv)]at hK;exact hK
def devOk(d:Dv):Prop:=nameOk d.name/\0<=d.cap/\d.cap<=4096/\(sEq d.cls ⟨#[]⟩=true\/nameOk d.cls)
open Classical in
def devB(d:Dv):Bool:=decide (devOk d)
theorem devB_true{d:Dv}(h:devOk d):devB d=true:=by simp[devB,h]
theorem devB_false{d:Dv}(h:¬devOk d):devB d=false:=by simp[devB,h]
theorem devB_iff{d:Dv}:devB d=true↔devOk d:=by simp[devB]
theorem nameB_not{s:ByteArray}(h:nameB s=false):¬nameOk s:=fun hn=>by rw[nameB_true hn]at h;cases h
theorem ctDevOk(d:Dv){K:KT}(hK:K (.sb (devB d)) []):AC 211 [encD d] [] K:=by
 refine gO (oftDevOk rfl rfl ?_)
 iterate 30 (all_goals((conv=>whnf);first|(with_reducible refine csName _ ?_)|refine zG ?_|apply zA|intro h|exact zT|skip))
 all_goals first
  |(refine fin_t hK (devB_true ⟨nameB_iff.1 zp,by omega,by omega,?_⟩);exact .inl zp)
  |(refine fin_s hK ?_
    rw[bJ,devB_iff,nameB_iff];refine⟨fun hh=>hh.2.2.2.resolve_left (by rw[sEq,h];simp),fun hh=>⟨nameB_iff.1 zp,by omega,by omega,.inr hh⟩⟩)
  |(refine fin_f hK (devB_false fun hn=>?_)
    obtain⟨n1,n2,n3,n4⟩:=hn
    first|omega|exact nameB_not zp n1)
def edgeOk(n:Int)(e:Ed):Prop:=nameOk e.name/\nameOk e.zone/\0<=e.dev/\e.dev<n/\1<=e.pf.bits/\e.pf.okP/\(e.pl=false\/e.pf.addr=0)
open Classical in
def edgeB(n:Int)(e:Ed):Bool:=decide (edgeOk n e)
theorem edgeB_true{n:Int}{e:Ed}(h:edgeOk n e):edgeB n e=true:=by simp[edgeB,h]
theorem edgeB_false{n:Int}{e:Ed}(h:¬edgeOk n e):edgeB n e=false:=by simp[edgeB,h]
theorem pl_of{e:Ed}(h:e.pl=true):¬e.pl=false:=by simp[h]
theorem edgeB_iff{n:Int}{e:Ed}:edgeB n e=true↔edgeOk n e:=by simp[edgeB]
theorem ctEdgeOk(t:Tp)(e:Ed){K:KT}(hK:K (.sb (edgeB t.devs.length e)) []):AC 213 [encT t,encE e] [] K:=by
 refine gO (oftEdgeOk rfl rfl ?_)
 iterate 50 (all_goals((conv=>whnf);first|(with_reducible first|refine csName _ ?_|refine cpVal e.pf ?_)|refine zG ?_|apply zA|intro h|exact zT|skip))
 all_goals(try simp only[aA]at*)
 all_goals first
  |(refine fin_t hK (edgeB_true ⟨nameB_iff.1 zp,nameB_iff.1 zp,by omega,by omega,by omega,by assumption,.inl zp⟩))
  |(refine fin_s hK ?_
    rw[bJ,edgeB_iff,aL];refine⟨fun hh=>hh.2.2.2.2.2.2.resolve_left (pl_of zp),fun hh=>⟨nameB_iff.1 zp,nameB_iff.1 zp,by omega,by omega,by omega,by assumption,.inr hh⟩⟩)
  |(refine fin_f hK (edgeB_false fun hn=>?_)
    obtain⟨n1,n2,n3,n4,n5,n6,n7⟩:=hn
    first|omega|(exact absurd n6 zp)|exact nameB_not zp n1|exact nameB_not zp n2)
theorem cuEdgeOk(e:Ed)(n:Int){K:KT}(hK:K (.sb (edgeB n e)) []):AC 168 [encE e,.v (.int .i64 n)] [] K:=by
 refine gO (ofuEdgeOk rfl rfl ?_)
 iterate 50 (all_goals((conv=>whnf);first|(with_reducible first|refine crName _ ?_|refine crVal e.pf ?_)|refine zG ?_|apply zA|intro h|exact zT|skip))
 all_goals(try simp only[aA]at*)
 all_goals first
  |(refine fin_t hK (edgeB_true ⟨nameB_iff.1 zp,nameB_iff.1 zp,by omega,by omega,by omega,by assumption,.inl zp⟩))
  |(refine fin_s hK ?_
    rw[bJ,edgeB_iff,aL];refine⟨fun hh=>hh.2.2.2.2.2.2.resolve_left (pl_of zp),fun hh=>⟨nameB_iff.1 zp,nameB_iff.1 zp,by omega,by omega,by omega,by assumption,.inr hh⟩⟩)
  |(refine fin_f hK (edgeB_false fun hn=>?_)
    obtain⟨n1,n2,n3,n4,n5,n6,n7⟩:=hn
    first|omega|(exact absurd n6 zp)|exact nameB_not zp n1|exact nameB_not zp n2)
def linkOk(n:Int)(l:Lk):Prop:=0<=l.a/\l.a<l.b/\l.b<n/\1<=l.cost/\l.cost<=1000
def apartE(e o:Ed):Prop:=¬(e.pl=false/\o.pl=false/\e.pf.meet o.pf=true)
theorem take_get{α:Type}{l:List α}{k j:Nat}{o:α}:(l.take k)[j]? =some o↔(j<k/\l[j]? =some o):=by
 rw[cY];split
 ·rename_i h;exact⟨fun h1=>⟨h,h1⟩,fun h1=>h1.2⟩
 ·rename_i h;refine⟨fun h1=>?_,fun h1=>absurd h1.1 h⟩;cases h1
structure TopOk (t:Tp):Prop where
 d0:1<=t.devs.length
 d1:t.devs.length<=12
 l1:t.links.length<=24
 e1:t.edges.length<=12
 p1:t.pools.length<=8
 t0:0<=t.tol
 t1:t.tol<=2
 dev:∀(i:Nat) d,t.devs[i]? =some d->devOk d/\devIx t.devs d.name=i
 link:∀(i:Nat) l,t.links[i]? =some l->linkOk t.devs.length l
 edge:∀(i:Nat) e,t.edges[i]? =some e->edgeOk t.devs.length e/\edgeIx t.edges e.name=i
 apart:∀(i:Nat) e,t.edges[i]? =some e->∀(j:Nat) o,j<i->t.edges[j]? =some o->apartE e o
 pool:∀(i:Nat) p,t.pools[i]? =some p->p.okP/\∀(j:Nat) q,j<i->t.pools[j]? =some q->p.meet q=false
open Classical in
def topB(t:Tp):Bool:=decide (TopOk t)
theorem topB_true{t:Tp}(h:TopOk t):topB t=true:=by simp[topB,h]
theorem topB_false{t:Tp}(h:¬TopOk t):topB t=false:=by simp[topB,h]
theorem topB_iff{t:Tp}:topB t=true↔TopOk t:=by simp[topB]
theorem ctVal1(p q:Pf){K:KT}(hK:K (.sb (p.meet q)) []):AC 216 [encP q,.fp [.v (.int .u32 p.addr),.v (.int .i64 p.bits)]] [] K:=by
 refine oftVal1 rfl rfl ?_
 iterate 9 (all_goals((conv=>whnf);first|(with_reducible refine ctOvl p q ?_)|refine zG ?_|apply zA|intro h|exact zT|skip))
 exact hK
theorem canyPf(l:List Pf)(p:Pf)(hl:l.length<1000000){K:KT}(hK:K (.sb (l.any fun q=>p.meet q)) []):
  AC 215 [.lst (l.map encP),.fn (.func 216) [] [.fp [.v (.int .u32 p.addr),.v (.int .i64 p.bits)]]] [] K:=by
 refine gO (ofanyPf rfl rfl ?_)
 iterate 9 (all_goals((conv=>whnf);first|(with_reducible refine cixPf _ _ _ (fun q=>p.meet q) (fun x K h=>ctVal1 p x h) hl ?_)|refine zG ?_|apply zA|intro h|exact zT|skip))
 refine fin_s hK ?_;rw[bJ,dJ,aL];constructor
 ·rintro⟨x,hx,hp⟩
  unfold firstIx;split
  ·omega
  ·rename_i hn;rw[fP]at hn;have:=hn x hx;simp_all
 ·intro h;unfold firstIx at h;split at h
  ·rename_i i hi;rw[dQ]at hi;obtain⟨h1,h2,_⟩:=hi;exact⟨_,dC h1,h2⟩
  ·omega
abbrev boxT(t:Tp):Vm.Obj:=.box [.lst (t.devs.map encD),.lst (t.links.map encL),.lst (t.edges.map encE),.lst (t.pools.map encP),.v (.int .i64 t.tol)]
theorem ctVal(t:Tp){K:KT}(hK:K (.sb (topB t)) []):AC 142 [encT t] [] K:=by
 refine gO (oftVal rfl rfl ?_)
 iterate 50 (all_goals((conv=>whnf);first|refine zG ?_|apply zA|intro h|exact zT|skip))
 all_goals first
  |(exact fin_f hK (topB_false fun hn=>by
    have:=hn.d0;have:=hn.d1;have:=hn.l1;have:=hn.e1;have:=hn.p1;have:=hn.t0;have:=hn.t1;simp only[aA]at*;omega))
  |skip
 obtain⟨d0,d1,l1,e1,p1,t0,t1⟩:1<=t.devs.length/\t.devs.length<=12/\t.links.length<=24/\t.edges.length<=12/\t.pools.length<=8/\0<=t.tol/\t.tol<=2:=by
  simp only[aA]at*;omega
 refine gL Nat (fun k=>⟨1,[(0,boxT t)],[(1,.op 0 0),(52,.lst (t.devs.map encD)),(53,.v (.int .i64 (t.devs.map encD).length)),(54,.v (.int .i64 k))]⟩)
  (fun k=>k<=t.devs.length/\∀(i:Nat) d,i<k->t.devs[i]? =some d->devOk d/\devIx t.devs d.name=i) (fun k=>t.devs.length-k) 0 ?_ ?_ ?_
 ·exact⟨aK _,fun i y hi=>absurd hi (bC _)⟩
 ·exact⟨[(0,0)],rfl,⟨rfl,rfl,rfl,rfl,trivial⟩,rfl,trivial⟩
 intro k ⟨hk,hinv⟩;rcases aF k t.devs.length with hkl|hkl
 ·obtain⟨r,hr⟩:=gex hkl
  iterate 40 (all_goals((conv=>whnf);first|(with_reducible first|refine hU hkl ?_|refine hJ hr ?_|refine ctDevOk r ?_|refine ctDev t _ zo ?_)|refine zG ?_|apply zA|intro h|exact zT|skip))
  ·exact⟨k+1,⟨by omega,iC hr ⟨devB_iff.1 zp,h⟩ hinv⟩,by omega,⟨[(0,0)],rfl,⟨rfl,rfl,rfl,rfl,trivial⟩,rfl,trivial⟩⟩
  ·exact fin_f hK (topB_false fun hn=>h (hn.dev k r hr).2)
  ·exact fin_f hK (topB_false fun hn=>by rw[devB_true (hn.dev k r hr).1]at h;cases h)
 have hdev:=iB hkl hinv
 iterate 20 (all_goals((conv=>whnf);first|refine zG ?_|apply zA|intro h|exact zT|skip))
 refine gL Nat (fun k=>⟨1,[(0,boxT t)],[(1,.op 0 0),(72,.lst (t.links.map encL)),(73,.v (.int .i64 (t.links.map encL).length)),(74,.v (.int .i64 k))]⟩)
  (fun k=>k<=t.links.length/\∀(i:Nat) d,i<k->t.links[i]? =some d->linkOk t.devs.length d) (fun k=>t.links.length-k) 0 ?_ ?_ ?_
 ·exact⟨aK _,fun i y hi=>absurd hi (bC _)⟩
 ·exact⟨[(0,0)],rfl,⟨rfl,rfl,rfl,rfl,trivial⟩,rfl,trivial⟩
 intro k ⟨hk,hinv⟩;rcases aF k t.links.length with hkl|hkl
 ·obtain⟨r,hr⟩:=gex hkl
  iterate 50 (all_goals((conv=>whnf);first|(with_reducible first|refine hU hkl ?_|refine hJ hr ?_)|refine zG ?_|apply zA|intro h|exact zT|skip))
  all_goals first
   |(refine fin_f hK (topB_false fun hn=>?_)
     obtain⟨n1,n2,n3,n4,n5⟩:=hn.link k r hr;simp only[aA]at*;omega)
   |(refine⟨k+1,⟨by omega,iC hr ?_ hinv⟩,by omega,⟨[(0,0)],rfl,⟨rfl,rfl,rfl,rfl,trivial⟩,rfl,trivial⟩⟩
     unfold linkOk;simp only[aA]at*;omega)
 have hlink:=iB hkl hinv
 iterate 20 (all_goals((conv=>whnf);first|refine zG ?_|apply zA|intro h|exact zT|skip))
 refine gL Nat (fun k=>⟨1,[(0,boxT t)],[(1,.op 0 0),(108,.lst (t.edges.map encE)),(109,.v (.int .i64 (t.edges.map encE).length)),(110,.v (.int .i64 k))]⟩)
  (fun k=>k<=t.edges.length/\∀(i:Nat) e,i<k->t.edges[i]? =some e->(edgeOk t.devs.length e/\edgeIx t.edges e.name=i)/\∀(j:Nat) o,j<i->t.edges[j]? =some o->apartE e o) (fun k=>t.edges.length-k) 0 ?_ ?_ ?_
 ·exact⟨aK _,fun i y hi=>absurd hi (bC _)⟩
 ·exact⟨[(0,0)],rfl,⟨rfl,rfl,rfl,rfl,trivial⟩,rfl,trivial⟩
 intro k ⟨hk,hinv⟩;rcases aF k t.edges.length with hkl|hkl
 ·obtain⟨r,hr⟩:=gex hkl
  iterate 40 (all_goals((conv=>whnf);first|(with_reducible first|refine hU hkl ?_|refine hJ hr ?_|refine ctEdgeOk t r ?_|refine ctEdge t _ zo ?_)|refine zG ?_|apply zA|intro h|exact zT|skip))
  ·refine sb_take zo ?_;have hlen:(t.edges.take k).length=k:=by simp;omega
   have hget:∀(j:Nat) o,(t.edges.take k)[j]? =some o↔j<k/\t.edges[j]? =some o:=fun j o=>take_get
   iterate 9 (all_goals((conv=>whnf);first|refine zG ?_|apply zA|intro h|exact zT|skip))
   refine gL Nat (fun j=>⟨2,[(1,.box [.v (.string r.name),.v (.int .i64 r.dev),.v (.string r.zone),.v (.int .u32 r.pf.addr),.v (.int .i64 r.pf.bits),.sb r.pl]),(0,boxT t)],
    [(1,.op 0 0),(8,.op 1 0),(108,.lst (t.edges.map encE)),(109,.v (.int .i64 (t.edges.map encE).length)),(110,.v (.int .i64 k)),(130,.lst ((t.edges.take k).map encE)),(131,.v (.int .i64 ((t.edges.take k).map encE).length)),(132,.v (.int .i64 j))]⟩)
    (fun j=>j<=(t.edges.take k).length/\∀(i:Nat) o,i<j->(t.edges.take k)[i]? =some o->apartE r o) (fun j=>(t.edges.take k).length-j) 0 ?_ ?_ ?_
   ·exact⟨aK _,fun i y hi=>absurd hi (bC _)⟩
   ·exact⟨[(0,0),(1,1)],rfl,⟨rfl,rfl,rfl,rfl,rfl,rfl,rfl,rfl,trivial⟩,rfl,rfl,trivial⟩
   intro j ⟨hj,hinvj⟩;rcases aF j (t.edges.take k).length with hjl|hjl
   ·obtain⟨o,ho⟩:∃o,(t.edges.take k)[j]? =some o:=⟨_,aE hjl⟩
    have ho2:=(hget j o).1 ho
    iterate 40 (all_goals((conv=>whnf);first|(with_reducible first|refine hU hjl ?_|refine hJ ho ?_|refine ctOvl r.pf o.pf ?_)|refine zG ?_|apply zA|intro h|exact zT|skip))
    all_goals first
     |(refine fin_f hK (topB_false fun hn=>?_)
       exact hn.apart k r hr j o ho2.1 ho2.2 ⟨by assumption,by assumption,by assumption⟩)
     |(refine⟨j+1,⟨by omega,iC ho ?_ hinvj⟩,by omega,⟨[(0,0),(1,1)],rfl,⟨rfl,rfl,rfl,rfl,rfl,rfl,rfl,rfl,trivial⟩,rfl,rfl,trivial⟩⟩
       rintro⟨q1,q2,q3⟩
       simp_all)
   have hap:=iB hjl hinvj
   iterate 20 (all_goals((conv=>whnf);first|refine zG ?_|apply zA|intro h|exact zT|skip))
   exact⟨k+1,⟨by omega,iC hr ⟨⟨edgeB_iff.1 zp,by assumption⟩,fun j o h1 h2=>hap j o ((hget j o).2 ⟨h1,h2⟩)⟩ hinv⟩,by omega,⟨[(0,0)],rfl,⟨rfl,rfl,rfl,rfl,trivial⟩,rfl,trivial⟩⟩
  ·exact fin_f hK (topB_false fun hn=>h (hn.edge k r hr).2)
  ·exact fin_f hK (topB_false fun hn=>by rw[edgeB_true (hn.edge k r hr).1]at h;cases h)
 have hedge:=iB hkl hinv
 iterate 20 (all_goals((conv=>whnf);first|refine zG ?_|apply zA|intro h|exact zT|skip))
 refine gL Nat (fun k=>⟨1,[(0,boxT t)],[(1,.op 0 0),(154,.lst (t.pools.map encP)),(155,.v (.int .i64 (t.pools.map encP).length)),(156,.v (.int .i64 k))]⟩)
  (fun k=>k<=t.pools.length/\∀(i:Nat) p,i<k->t.pools[i]? =some p->p.okP/\∀(j:Nat) q,j<i->t.pools[j]? =some q->p.meet q=false) (fun k=>t.pools.length-k) 0 ?_ ?_ ?_
 ·exact⟨aK _,fun i y hi=>absurd hi (bC _)⟩
 ·exact⟨[(0,0)],rfl,⟨rfl,rfl,rfl,rfl,trivial⟩,rfl,trivial⟩
 intro k ⟨hk,hinv⟩;rcases aF k t.pools.length with hkl|hkl
 ·obtain⟨r,hr⟩:=gex hkl;have hlen:(t.pools.take k).length=k:=by simp;omega
  have hget:∀(j:Nat) o,(t.pools.take k)[j]? =some o↔j<k/\t.pools[j]? =some o:=fun j o=>take_get
  iterate 40 (all_goals((conv=>whnf);first|(with_reducible first|refine hU hkl ?_|refine hJ hr ?_|refine cpVal r ?_|refine sb_take zo ?_|refine canyPf _ r zo ?_)|refine zG ?_|apply zA|intro h|exact zT|skip))
  ·refine fin_f hK (topB_false fun hn=>?_);obtain⟨q,hq1,hq2⟩:=dJ.1 h;obtain⟨j,hj⟩:=bN.1 hq1;have hj2:=(hget j q).1 hj;rw[(hn.pool k r hr).2 j q hj2.1 hj2.2]at hq2;cases hq2
  ·refine⟨k+1,⟨by omega,iC hr ⟨by assumption,fun j q h1 h2=>?_⟩ hinv⟩,by omega,⟨[(0,0)],rfl,⟨rfl,rfl,rfl,rfl,trivial⟩,rfl,trivial⟩⟩;rw[fD]at h;have:=h q (aI ((hget j q).2 ⟨h1,h2⟩));simpa using this
  ·exact fin_f hK (topB_false fun hn=>h (hn.pool k r hr).1)
 have hpool:=iB hkl hinv
 iterate 20 (all_goals((conv=>whnf);first|refine zG ?_|apply zA|intro h|exact zT|skip))
 exact fin_t hK (topB_true ⟨d0,d1,l1,e1,p1,t0,t1,hdev,hlink,fun i e he=>(hedge i e he).1,fun i e he=>(hedge i e he).2,hpool⟩)
theorem cuMeets(p:Pf)(l:List Pf)(hl:l.length<1000000){K:KT}(hK:K (.sb (l.any fun q=>p.meet q)) []):AC 169 [encP p,.lst (l.map encP)] [] K:=by
 refine gO (ofuMeets rfl rfl ?_)
 iterate 4 (all_goals((conv=>whnf);first|refine zG ?_|apply zA|intro h|exact zT|skip))
 refine gL Nat (fun k=>⟨1,[(0,.box [.v (.int .u32 p.addr),.v (.int .i64 p.bits)])],[(1,.lst (l.map encP)),(2,.op 0 0),(5,.v (.int .i64 k))]⟩) (fun k=>k<=l.length/\∀(i:Nat) q,i<k->l[i]? =some q->p.meet q=false) (fun k=>l.length-k) 0 ?_ ?_ ?_
 ·exact⟨aK _,fun i y hi=>absurd hi (bC _)⟩
 ·exact⟨[(0,0)],rfl,⟨rfl,rfl,rfl,trivial⟩,rfl,trivial⟩
 intro k ⟨hk,hinv⟩;rcases aF k l.length with hkl|hkl
 ·obtain⟨r,hr⟩:=gex hkl
  iterate 20 (all_goals((conv=>whnf);first|(with_reducible first|refine hU hkl ?_|refine hJ hr ?_|refine crMeet p r ?_)|refine zG ?_|apply zA|intro h|exact zT|skip))
  ·exact fin_t hK (dJ.2 ⟨r,aI hr,h⟩)
  ·exact⟨k+1,⟨by omega,iC hr h hinv⟩,by omega,⟨[(0,0)],rfl,⟨rfl,rfl,rfl,trivial⟩,rfl,trivial⟩⟩
 ·have hall:=iB hkl hinv
  iterate 12 (all_goals((conv=>whnf);first|refine zG ?_|apply zA|intro h|exact zT|skip))
  refine fin_f hK (fD.2 fun q hq=>?_);obtain⟨j,hj⟩:=bN.1 hq;rw[hall j q hj];simp
def fixed(l:List Ed):List Pf:=(l.filter fun e=> !e.pl).map (·.pf)
theorem fixed_succ{l:List Ed}{k:Nat}{e:Ed}(h:l[k]? =some e):fixed (l.take (k+1))=fixed (l.take k)++(if e.pl then []else [e.pf]):=by
 unfold fixed;rw[bI,h,dF,aQ];cases he:e.pl<;>simp[he]
theorem fixed_len(l:List Ed):(fixed l).length<=l.length:=by
 unfold fixed;rw[aA];exact dL _ _
theorem cuFixed(t:Tp)(hl:t.edges.length<1000000){K:KT}(hK:K (.lst ((fixed t.edges).map encP)) []):AC 85 [encT t] [] K:=by
 refine ofuFixed rfl rfl ?_
 iterate 8 (all_goals((conv=>whnf);first|refine zG ?_|apply zA|intro h|exact zT|skip))
 refine gL Nat (fun k=>⟨2,[(1,.arr 2 ((fixed (t.edges.take k)).map encP)),(0,boxT t)],[(1,.op 0 0),(3,.os 1 2 0 (fixed (t.edges.take k)).length),(4,.v (.int .i64 k))]⟩) (fun k=>k<=t.edges.length) (fun k=>t.edges.length-k) 0 ?_ ?_ ?_
 ·exact aK _
 ·exact⟨[(0,0),(1,1)],rfl,⟨rfl,rfl,rfl,trivial⟩,rfl,rfl,trivial⟩
 intro k hk;rcases aF k t.edges.length with hkl|hkl
 ·obtain⟨r,hr⟩:=gex hkl;have hs:=fixed_succ hr;have hf:=fixed_len (t.edges.take k);simp only[bA]at hf
  iterate 30 (all_goals((conv=>whnf);first|(with_reducible first|refine hU hkl ?_|refine hJ hr ?_)|refine zG ?_|apply zA|intro h|exact zT|skip))
  ·refine⟨k+1,by omega,by omega,?_⟩;rw[hs,h,aG rfl,bF];exact⟨[(0,0),(1,1)],rfl,⟨rfl,rfl,rfl,trivial⟩,rfl,rfl,trivial⟩
  ·refine⟨k+1,by omega,by omega,?_⟩;rw[hs,h,aD zx,aQ,aC];exact⟨[(0,0),(1,3)],rfl,⟨rfl,rfl,rfl,trivial⟩,rfl,rfl,trivial⟩
 ·iterate 12 (all_goals((conv=>whnf);first|refine zG ?_|apply zA|intro h|exact zT|skip))
  rw[aY hkl];exact hK
theorem cuDevs(l:List Dv){K:KT}(hK:∀b,(b=true↔(1<=l.length/\l.length<=12)/\∀(i:Nat) d,l[i]? =some d->devOk d/\devIx l d.name=i)->K (.sb b) []):AC 167 [.lst (l.map encD)] [] K:=by
 refine gO (ofuDevs rfl rfl ?_)
 iterate 16 (all_goals((conv=>whnf);first|refine zG ?_|apply zA|intro h|exact zT|skip))
 all_goals first
  |(refine fin_f (hK false (iff_of_false zx fun hn=>?_)) rfl
    have:=hn.1;simp only[aA]at*;omega)
  |skip
 obtain⟨d0,d1⟩:1<=l.length/\l.length<=12:=by
  simp only[aA]at*;omega
 refine gL Nat (fun k=>⟨0,[],[(0,.lst (l.map encD)),(3,.v (.int .i64 k))]⟩)
  (fun k=>k<=l.length/\∀(i:Nat) d,i<k->l[i]? =some d->devOk d/\devIx l d.name=i) (fun k=>l.length-k) 0 ?_ ?_ ?_
 ·exact⟨aK _,fun i y hi=>absurd hi (bC _)⟩
 ·exact⟨[],rfl,⟨rfl,rfl,trivial⟩,trivial⟩
 intro k ⟨hk,hinv⟩;rcases aF k l.length with hkl|hkl
 ·obtain⟨r,hr⟩:=gex hkl;have hdv:∀(n:ByteArray) (K:AV->List Vm.Obj->Prop),K (.v (.int .i64 (devIx l n))) []->AC 238 [.agg [.lst (l.map encD),.lst [],.lst [],.lst [],.v (.int .i64 0)],.v (.string n)] [] K:=
   fun n K h=>cuDev ⟨l,[],[],[],0⟩ n (by show l.length<1000000;omega) h
  iterate 90 (all_goals((conv=>whnf);first|(with_reducible first|refine hU hkl ?_|refine hJ hr ?_|refine crName _ ?_|refine hdv _ _ ?_)|refine zG ?_|apply zA|intro h|exact zT|skip))
  all_goals first
   |(refine fin_f (hK false (iff_of_false zx fun hn=>?_)) rfl
     obtain⟨⟨n1,n2,n3,n4⟩,n5⟩:=hn.2 k r hr
     first|omega|exact nameB_not zp n1|exact n4.elim (fun n6=>by simp_all[sEq]) (fun n6=>nameB_not zp n6)|(exact absurd n5 zp))
   |(refine⟨k+1,⟨by omega,iC hr ⟨⟨nameB_iff.1 zp,by omega,by omega,?_⟩,by assumption⟩ hinv⟩,by omega,⟨[],rfl,⟨rfl,rfl,trivial⟩,trivial⟩⟩
     first|exact .inr (nameB_iff.1 zp)|(left;simp_all[sEq];done))
 ·have hall:=iB hkl hinv
  iterate 12 (all_goals((conv=>whnf);first|refine zG ?_|apply zA|intro h|exact zT|skip))
  exact fin_t (hK true (iff_of_true rfl ⟨⟨d0,d1⟩,hall⟩)) rfl
theorem pw_iff{α:Type}{R:α->α->Prop}{l:List α}:l.Pairwise R↔∀(i:Nat) x,l[i]? =some x->∀(j:Nat) y,j<i->l[j]? =some y->R y x:=by
 rw[cV];constructor
 ·intro h i x hx j y hj hy;obtain⟨h1,rfl⟩:=aP.1 hx;obtain⟨h2,rfl⟩:=aP.1 hy;exact h j i h2 h1 hj
 ·intro h i j hi hj hij;exact h j _ (aE hj) i _ hij (aE hi)
theorem fixed_apart{l:List Ed}:(∀(i:Nat) p,(fixed l)[i]? =some p->∀(j:Nat) q,j<i->(fixed l)[j]? =some q->p.meet q=false)↔∀(i:Nat) e,l[i]? =some e->∀(j:Nat) o,j<i->l[j]? =some o->apartE e o:=by
 rw[<-pw_iff (R:=fun q p:Pf=>p.meet q=false),<-pw_iff (R:=fun o e:Ed=>apartE e o),fixed,fN,List.pairwise_filter];constructor
 ·refine List.Pairwise.imp fun {o e} h=>?_
  rintro⟨h1,h2,h3⟩
  rw[h (by simp[h2]) (by simp[h1])]at h3;cases h3
 ·refine List.Pairwise.imp fun {o e} h=>?_;intro h1 h2;cases hm:e.pf.meet o.pf with
  |false=>rfl
  |true=>exact absurd ⟨by simpa using h2,by simpa using h1,hm⟩ h
theorem cuVal(t:Tp){K:KT}(hK:K (.sb (topB t)) []):AC 84 [encT t] [] K:=by
 refine gO (ofuVal rfl rfl ?_)
 iterate 6 (all_goals((conv=>whnf);first|refine zG ?_|apply zA|intro h|exact zT|skip))
 refine cuDevs t.devs fun db hdb=>?_
 iterate 50 (all_goals((conv=>whnf);first|refine zG ?_|apply zA|intro h|exact zT|skip))
 all_goals first
  |(exact fin_f hK (topB_false fun hn=>by
    have h0:=hdb.2 ⟨⟨hn.d0,hn.d1⟩,hn.dev⟩;have:=hn.l1;have:=hn.e1;have:=hn.p1;have:=hn.t0;have:=hn.t1;(try simp only[aA]at*)
    first|omega|(rw[h0]at h;cases h)))
  |skip
 obtain⟨l1,e1,p1,t0,t1⟩:t.links.length<=24/\t.edges.length<=12/\t.pools.length<=8/\0<=t.tol/\t.tol<=2:=by
  simp only[aA]at*;omega
 have hdb':=hdb.1 zp;refine gL Nat (fun k=>⟨1,[(0,boxT t)],[(1,.op 0 0),(3,.v (.int .i64 k))]⟩)
  (fun k=>k<=t.links.length/\∀(i:Nat) d,i<k->t.links[i]? =some d->linkOk t.devs.length d) (fun k=>t.links.length-k) 0 ?_ ?_ ?_
 ·exact⟨aK _,fun i y hi=>absurd hi (bC _)⟩
 ·exact⟨[(0,0)],rfl,⟨rfl,rfl,trivial⟩,rfl,trivial⟩
 intro k ⟨hk,hinv⟩;rcases aF k t.links.length with hkl|hkl
 ·obtain⟨r,hr⟩:=gex hkl
  iterate 50 (all_goals((conv=>whnf);first|(with_reducible first|refine hU hkl ?_|refine hJ hr ?_)|refine zG ?_|apply zA|intro h|exact zT|skip))
  all_goals first
   |(refine fin_f hK (topB_false fun hn=>?_)
     obtain⟨n1,n2,n3,n4,n5⟩:=hn.link k r hr;simp only[aA]at*;omega)
   |(refine⟨k+1,⟨by omega,iC hr ?_ hinv⟩,by omega,⟨[(0,0)],rfl,⟨rfl,rfl,trivial⟩,rfl,trivial⟩⟩
     unfold linkOk;simp only[aA]at*;omega)
 have hlink:=iB hkl hinv
 iterate 20 (all_goals((conv=>whnf);first|refine zG ?_|apply zA|intro h|exact zT|skip))
 refine gL Nat (fun k=>⟨1,[(0,boxT t)],[(1,.op 0 0),(5,.v (.int .i64 k))]⟩)
  (fun k=>k<=t.edges.length/\∀(i:Nat) e,i<k->t.edges[i]? =some e->edgeOk t.devs.length e/\edgeIx t.edges e.name=i) (fun k=>t.edges.length-k) 0 ?_ ?_ ?_
 ·exact⟨aK _,fun i y hi=>absurd hi (bC _)⟩
 ·exact⟨[(0,0)],rfl,⟨rfl,rfl,trivial⟩,rfl,trivial⟩
 intro k ⟨hk,hinv⟩;rcases aF k t.edges.length with hkl|hkl
 ·obtain⟨r,hr⟩:=gex hkl;have hed:∀(K:AV->List Vm.Obj->Prop),K (.sb (edgeB t.devs.length r)) []->AC 168 [encE r,.v (.int .i64 (t.devs.map encD).length)] [] K:=fun K h=>cuEdgeOk r _ (by rw[aA];exact h)
  iterate 40 (all_goals((conv=>whnf);first|(with_reducible first|refine hU hkl ?_|refine hJ hr ?_|refine hed _ ?_|refine cuEdge t _ zo ?_)|refine zG ?_|apply zA|intro h|exact zT|skip))
  ·exact⟨k+1,⟨by omega,iC hr ⟨edgeB_iff.1 zp,h⟩ hinv⟩,by omega,⟨[(0,0)],rfl,⟨rfl,rfl,trivial⟩,rfl,trivial⟩⟩
  ·exact fin_f hK (topB_false fun hn=>h (hn.edge k r hr).2)
  ·exact fin_f hK (topB_false fun hn=>by rw[edgeB_true (hn.edge k r hr).1]at h;cases h)
 have hedge:=iB hkl hinv;have hfl:=fixed_len t.edges
 iterate 20 (all_goals((conv=>whnf);first|(with_reducible refine cuFixed t zo ?_)|refine zG ?_|apply zA|intro h|exact zT|skip))
 refine gL Nat (fun k=>⟨1,[(0,boxT t)],[(1,.op 0 0),(6,.lst ((fixed t.edges).map encP)),(7,.v (.int .i64 k))]⟩)
  (fun k=>k<=(fixed t.edges).length/\∀(i:Nat) p,i<k->(fixed t.edges)[i]? =some p->∀(j:Nat) q,j<i->(fixed t.edges)[j]? =some q->p.meet q=false) (fun k=>(fixed t.edges).length-k) 0 ?_ ?_ ?_
 ·exact⟨aK _,fun i y hi=>absurd hi (bC _)⟩
 ·exact⟨[(0,0)],rfl,⟨rfl,rfl,rfl,trivial⟩,rfl,trivial⟩
 intro k ⟨hk,hinv⟩;rcases aF k (fixed t.edges).length with hkl|hkl
 ·obtain⟨r,hr⟩:∃r,(fixed t.edges)[k]? =some r:=⟨_,aE hkl⟩
  have hlen:((fixed t.edges).take k).length=k:=by simp;omega
  iterate 40 (all_goals((conv=>whnf);first|(with_reducible first|refine hU hkl ?_|refine hJ hr ?_|refine sb_take zo ?_|refine cuMeets r _ zo ?_)|refine zG ?_|apply zA|intro h|exact zT|skip))
  ·refine fin_f hK (topB_false fun hn=>?_);obtain⟨q,hq1,hq2⟩:=dJ.1 h;obtain⟨j,hj⟩:=bN.1 hq1;have hj2:=take_get.1 hj;rw[fixed_apart.2 hn.apart k r hr j q hj2.1 hj2.2]at hq2;cases hq2
  ·refine⟨k+1,⟨by omega,iC hr (fun j q h1 h2=>?_) hinv⟩,by omega,⟨[(0,0)],rfl,⟨rfl,rfl,rfl,trivial⟩,rfl,trivial⟩⟩;rw[fD]at h;have:=h q (aI (take_get.2 ⟨h1,h2⟩));simpa using this
 have hfix:=fixed_apart.1 (iB hkl hinv)
 iterate 20 (all_goals((conv=>whnf);first|refine zG ?_|apply zA|intro h|exact zT|skip))
 refine gL Nat (fun k=>⟨1,[(0,boxT t)],[(1,.op 0 0),(8,.v (.int .i64 k))]⟩)
  (fun k=>k<=t.pools.length/\∀(i:Nat) p,i<k->t.pools[i]? =some p->p.okP/\∀(j:Nat) q,j<i->t.pools[j]? =some q->p.meet q=false) (fun k=>t.pools.length-k) 0 ?_ ?_ ?_
 ·exact⟨aK _,fun i y hi=>absurd hi (bC _)⟩
 ·exact⟨[(0,0)],rfl,⟨rfl,rfl,trivial⟩,rfl,trivial⟩
 intro k ⟨hk,hinv⟩;rcases aF k t.pools.length with hkl|hkl
 ·obtain⟨r,hr⟩:=gex hkl;have hlen:(t.pools.take k).length=k:=by simp;omega
  iterate 40 (all_goals((conv=>whnf);first|(with_reducible first|refine hU hkl ?_|refine hJ hr ?_|refine crVal r ?_|refine sb_take zo ?_|refine cuMeets r _ zo ?_)|refine zG ?_|apply zA|intro h|exact zT|skip))
  ·refine fin_f hK (topB_false fun hn=>?_);obtain⟨q,hq1,hq2⟩:=dJ.1 h;obtain⟨j,hj⟩:=bN.1 hq1;have hj2:=take_get.1 hj;rw[(hn.pool k r hr).2 j q hj2.1 hj2.2]at hq2;cases hq2
  ·refine⟨k+1,⟨by omega,iC hr ⟨by assumption,fun j q h1 h2=>?_⟩ hinv⟩,by omega,⟨[(0,0)],rfl,⟨rfl,rfl,trivial⟩,rfl,trivial⟩⟩;rw[fD]at h;have:=h q (aI (take_get.2 ⟨h1,h2⟩));simpa using this
  ·exact fin_f hK (topB_false fun hn=>h (hn.pool k r hr).1)
 have hpool:=iB hkl hinv
 iterate 20 (all_goals((conv=>whnf);first|refine zG ?_|apply zA|intro h|exact zT|skip))
 exact fin_t hK (topB_true ⟨hdb'.1.1,hdb'.1.2,l1,e1,p1,t0,t1,hdb'.2,hlink,hedge,hfix,hpool⟩)
def gnHuge:Ctx:={N:=25}
abbrev ofnHuge:=ofD gnHuge Tryz.func12
def gnSub:Ctx:={N:=14}
abbrev ofnSub:=ofD gnSub Tryz.func67
def Al:Sched:=ln [15,17,19,20,22]
def Am:Sched:=ln [12,15,17,19,22]
def Bi:Sched:=.alt 6 Al (.alt 10 Am Aa)
def Aj:Sched:=ln [8,15,17,19,22]
def Bh:Sched:=.alt 4 Al (.alt 10 Aj Aa)
def Bg:Sched:=.alt 4 Am (.alt 6 Aj Aa)
def Bl:Sched:=lz [15,17] (.alt 0 (ln [5,7,19,20,22]) (.alt 10 (ln [0,5,7,19,22]) Aa))
def An:Sched:=ln [15,17,0,5,7,19,22]
def Bu:Sched:=.alt 0 (lz [5] (.wch 3 Am)) (.alt 6 An Aa)
def Bk:Sched:=.alt 0 (ln [5,7,8,15,17,19,22]) (.alt 4 An Aa)
def B7:Sched:=lz [1,5,7,11,15] (.wch 1 (.alt 4 (.alt 6 (ln [16,19,21,23,24,26,29,30]) (.alt 8 (ln [12,19,21,23,24,26,29,30]) Aa)) (.alt 6 (ln [8,16,19,21,23,24,26,29,30]) Aa)))
def Av:Sched:=ln [22,25,27,30,33,34,36,39,40]
def Bq:Sched:=.alt 9 (ln [25,27,30,33,34,36,39,40]) (.alt 15 (ln [18,25,27,33,34,36,39,40]) Aa)
def B6:Sched:=.alt 9 Av (.alt 11 Bq Aa)
def Az:Sched:=ln [16,22,25,27,30,33,34,36,39,40]
def Bv:Sched:=lz [25,27] (.alt 2 (ln [9,11,30,33,34,36,39,40]) (.alt 15 (ln [4,9,11,33,34,36,39,40]) Aa))
def B8:Sched:=.alt 2 (lz [9] (.wch 5 Av)) (.alt 11 Bv Aa)
def gnTop:Ctx:={N:=154,np:=1,own:=oz [11],plan:=p1 6 (lz [3,11] (.alt 0 (lz [5] (.wch 3 (.alt 4 Bi (.alt 6 Bh (.alt 10 Bg Aa))))) (.alt 4 (.alt 0 (lz [5] (.wch 3 Bi)) (.alt 6 Bl (.alt 10 Bu Aa))) (.alt 6 (.alt 0 (lz [5,7] Bh) (.alt 4 Bl (.alt 10 Bk Aa))) (.alt 10 (.alt 0 (lz [5] (.wch 3 Bg)) (.alt 4 Bu (.alt 6 Bk Aa))) Aa))))) (p1 11 B7 (p1 16 B7 (p1 21 (lz [1,7,13,15,21,29] (.wch 1 (.alt 2 (lz [9] (.wch 5 (.alt 8 B6 (.alt 9 Az Aa)))) (.alt 8 (.alt 2 (lz [9] (.wch 5 B6)) (.alt 9 B8 (.alt 11 (.alt 2 (lz [9,11] Bq) (.alt 9 Bv (.alt 15 (.alt 2 (ln [9,11,18,25,27,33,34,36,39,40]) (.alt 9 (ln [25,27,4,9,11,33,34,36,39,40]) Aa)) Aa))) Aa))) (.alt 9 (.alt 2 (lz [9] (.wch 5 Az)) (.alt 8 B8 Aa)) Aa))))) pn))),hints:=h1 2 [.virtB 5 0 5,.virtB 5 1 3,.virtB 5 2 6,.virtB 5 3 2] hn,cut:=oz [7,17,20],res:=true}
abbrev ofnTop:=ofD gnTop Tryz.func24
end Go.Proofs.YtnomkooikbhgmaaGreatDoor
