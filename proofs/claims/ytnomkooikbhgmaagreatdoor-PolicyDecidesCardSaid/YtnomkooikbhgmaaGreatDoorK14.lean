/- Lemmas. -/
import Derived.Test.YtnomkooikbhgmaaGreatDoorProg
import Derived.Test.YtnomkooikbhgmaaGreatDoorK13
set_option linter.unusedVariables false
set_option linter.unusedSimpArgs false
set_option maxRecDepth 100000
set_option maxHeartbeats 4000000
noncomputable section
namespace Go.Proofs.YtnomkooikbhgmaaGreatDoor
open Go Go.Vm
structure PSet (l:List Bx):Prop where
 len:l.length<=4096
 cn:Cn 5 l
theorem Eg:PSet []:=⟨aO _,Cn.nil 5⟩
theorem aTQ(op:Bool->Bool->Bool){s b:List Bx}(h:PSet s)(hb:b.length<=20):(iX op 5 s b).length<=900000000000:=by
 have h1:=Zy op b.length 5 s b (aK _) h.cn (aK _);have h2:(2*b.length+3)^5<=43^5:=Nat.pow_le_pow_left zo 5;have h3:(s.length+1)*(2*b.length+3)^5<=4097*43^5:=eJ (by have:=h.len;omega) h2;have h4:4097*43^5<=900000000000:=by decide
 omega
theorem aTR(op:Bool->Bool->Bool){s b:List Bx}(h:PSet s)(hb:PSet b):(iX op 5 s b).length<=900000000000:=by
 have h1:=Zz op 5 s b (aK _) h.cn hb.cn;have h3:6^5*((s.length+1)*(b.length+1))<=6^5*(4097*4097):=dY _ (eJ (by have:=h.len;omega) (by have:=hb.len;omega));have h4:6^5*(4097*4097)<=900000000000:=by decide
 omega
theorem aEb{l:List Bx}(h:(jN l).length=l.length):∀x,x∈l->x.ok:=by
 have:=List.length_filter_eq_length_iff.1 h;intro x hx;simpa using this x hx
theorem Ox{x:Bx}(h:x.ok):∀f,f<=4->(x.get f).lo<=(x.get f).hi/\(x.get f).hi<=iN f:=by
 obtain⟨h0,h1,h2,h3,h4⟩:=h;intro f hf;rcases f with _|_|_|_|_|f
 all_goals first|assumption|omega
theorem Ml{l:List Bx}(h:kN l=true):iX orB 5 l []=l:=by
 unfold kN at h;simp only[aJ,aM]at h;obtain⟨h1,h2,h3⟩:=h;have hv:=aEb h2;have:=(wF 5 l (aK _) (fun x hx f hf _=>Ox (hv x hx) f hf) zo).1 h3;rw[this];exact(eE fun x _=>xR x).trans (List.map_id _)
theorem rZ{l:List Bx}(h:kN l=true):PSet l:=by
 refine⟨?_,?_⟩
 ·unfold kN at h;simp only[aJ,aM]at h;exact h.1
 ·rw[<-Ml h];exact Nd orB 5 l [] (aK _)
theorem Fd{op:Bool->Bool->Bool}{a b:List Bx}(h:(iX op 5 a b).length<=4096):PSet (iX op 5 a b):=⟨h,Nd op 5 a b (aK _)⟩
theorem wX:∀(l s:List Bx),PSet s->PSet (kH s l).1
 |[],s,h=>h
 |b::l,s,h=>by
  rw[kH];split
  ·split
   ·exact Eg
   ·exact wX l _ (Fd (by unfold rF at*;omega))
  ·exact wX l s h
theorem Ug(l:List Bx):PSet (kR l).1:=wX l [] Eg
theorem limE_ne{l:List Bx}:uH l≠0↔4096<l.length:=by
 unfold uH;split
 ·simp;omega
 ·simp;omega
theorem Vt(l:List Bx)(hl:l.length<1000000000){K:KT}(hK:K (.tup [iE (kR l).1,.v (.int .i64 (kR l).2)]) []):AC 98 [iE l] [] K:=by
 refine gQ (aCI rfl rfl ?_);(repeat' ((conv=>whnf);first|refine zG ?_|apply zA|intro h|exact zT));all_goals conv=>whnf
 refine gM (Nat×List Bx) (fun g=>⟨0,[],[(0,iE l),(4,iE g.2),(5,.v (.int .i64 g.1))]⟩) (fun g=>g.1<=l.length/\PSet g.2/\kR l=kH g.2 (l.drop g.1)) (fun g=>l.length-g.1) (0,[]) ⟨aO _,Eg,by rw[cA];rfl⟩ ?_ ?_
 ·exact leA
 rintro⟨i,s⟩ ⟨hi,hs,hm⟩
 simp only at hi hs hm⊢;rcases aC i l.length with hil|hil
 ·obtain⟨x,hx⟩:=gex hil;have hd:l.drop i=x::l.drop (i+1):=by
   rw[aE hil]at hx;rw[<-bG hx,<-bB hil]
  rw[hd,kH]at hm;have hsl:∀{K:List AV->Prop},K ([x].map iY)->Sl (l.map iY) i (i+1-i) K:=fun {K} h=>by
   refine mQ zo ?_;rw[fK,hd];exact h
  have hadd:∀{K:KT},K (iE (rF s x)) []->AC 184 [iE s,iE [x],.v (.int .i64 0),.v (.int .i64 0)] [] K:=fun h=>Do 0 5 (aK _) s [x] (by have:=hs.len;simp only[aB,aG];omega) (aTQ _ hs zx) (by rw[Wx];exact h);(repeat' ((conv=>whnf);first|(with_reducible first|refine hZ hil ?_|refine hU hx ?_|refine Te x ?_|refine gZ i (i+1) rfl zo zo (by rw[aA];omega) ?_|refine hsl ?_|refine hadd ?_|refine aAw (rF s x) ?_)|refine zG ?_|apply zA|intro h|exact zT));all_goals conv=>whnf
  ·rename_i hb;have he:=h;have hlen:¬4096<(rF s x).length:=fun h=>limE_ne.2 h he;rw[aH hb,aF hlen]at hm;refine⟨(i+1,rF s x),⟨hil,Fd (by unfold rF at hlen;omega),hm⟩,by omega,?_⟩;rw[show rQ (rF s x)=rF s x from by unfold rQ;rw[aF hlen]];dsimp only;rw[aN,aL];exact leA
  ·rename_i hb;have hne:=h;rw[aH hb,aH (limE_ne.1 hne)]at hm;rw[hm]at hK;have h3:uH (rF s x)=3:=by
    unfold uH at hne⊢;split<;>simp_all
   rw[h3];exact⟨_,gR gS gO,hK⟩
  ·have hb:=h;rw[aF hb]at hm;refine⟨(i+1,s),⟨hil,hs,hm⟩,by dsimp only;omega,?_⟩;dsimp only;rw[aN,aL];exact leA
 ·rw[bV hil,kH]at hm;rw[hm]at hK;(repeat' ((conv=>whnf);first|refine zG ?_|apply zA|intro h|exact zT));all_goals conv=>whnf
  exact⟨_,gO,hK⟩
def mK(l:List Bx):List Bx×Int:=if kN l then(l,0)else kR l
theorem qB(l:List Bx):PSet (mK l).1:=by
 unfold mK;split
 ·exact rZ zp
 ·exact Ug l
theorem aAu(l:List Bx)(hl:l.length<1000000000){K:KT}(hK:K (.tup [iE (mK l).1,.v (.int .i64 (mK l).2)]) []):AC 186 [iE l] [] K:=by
 refine gQ (aHp rfl rfl ?_);unfold mK at hK;(repeat' ((conv=>whnf);first|(with_reducible first|refine aEx l hl ?_|refine Vt l hl ?_)|refine zG ?_|apply zA|intro h|exact zT));all_goals conv=>whnf
 all_goals simp_all
 all_goals exact⟨_,gO,hK⟩
def iF(op:Bool->Bool->Bool)(a b:List Bx):List Bx×Int:=
 if(mK a).2≠0 then([],(mK a).2)else if(mK b).2≠0 then([],(mK b).2)else(rQ (iX op 5 (mK a).1 (mK b).1),uH (iX op 5 (mK a).1 (mK b).1))
theorem No(c:Int)(a b:List Bx)(ha:a.length<1000000000)(hb:b.length<1000000000){K:KT}(hK:K (.tup [iE (iF (opI c) a b).1,.v (.int .i64 (iF (opI c) a b).2)]) []):AC 101 [iE a,iE b,.v (.int .i64 c)] [] K:=by
 refine gQ (aCF rfl rfl ?_);unfold iF at hK;have hr:∀{K:KT},K (iE (iX (opI c) 5 (mK a).1 (mK b).1)) []->AC 184 [iE (mK a).1,iE (mK b).1,.v (.int .i64 c),.v (.int .i64 0)] [] K:=fun h=>Do c 5 (aK _) _ _ (by have:=(qB a).len;have:=(qB b).len;omega) (aTR _ (qB a) (qB b)) h;(repeat' ((conv=>whnf);first|(with_reducible first|refine aAu a ha ?_|refine aAu b hb ?_|refine hr ?_|refine aAw _ ?_)|refine zG ?_|apply zA|intro h|exact zT));all_goals conv=>whnf
 all_goals simp_all
 all_goals first|exact⟨_,gO,hK⟩|exact⟨_,gR gS gO,hK⟩
theorem aAt(l:List Bx)(hl:l.length<50000)(hr:(iX orB 5 (jN l) []).length<=900000000000){K:KT}(hK:K (iE (iX orB 5 (jN l) [])) []):AC 185 [iE l] [] K:=by
 refine gQ (Yx rfl rfl ?_);have hq:∀{K:KT},K (iE (iX orB 5 (jN l) [])) []->AC 184 [iE (jN l),.lst [],.v (.int .i64 0),.v (.int .i64 0)] [] K:=fun h=>Do 0 5 (aK _) _ [] (by have:=uP l;simp only[aG];omega) (by rw[Wx];exact hr) (by rw[Wx];exact h);(repeat' ((conv=>whnf);first|(with_reducible first|refine aAx l zo ?_|refine hq ?_)|refine zG ?_|apply zA|intro h|exact zT));all_goals conv=>whnf
 exact⟨_,gO,hK⟩
def jZ(f:Nat)(l:List Bx):List Int:=l.flatMap fun x=>[(x.get f).lo,(x.get f).hi+1]
theorem endsB_mem{f:Nat}{l:List Bx}{z:Int}:z∈jZ f l↔∃x,x∈l/\(z=(x.get f).lo\/z=(x.get f).hi+1):=by
 simp[jZ]
theorem J9{st:List Int}{z:Int}(h:(st++[z]).Pairwise (· < ·)):∀x,x∈st->x<z:=fun x hx=>(dM.1 h).2.2 x hx z zx
theorem Vy{f:Nat}{a b:List Bx}(hab:∀x,x∈a\/x∈b->(x.get f).lo<=(x.get f).hi/\(x.get f).hi<=iN f){st':List Int}(hs:st'.Pairwise (· < ·))(hm:∀z,z∈st'↔z=0\/z=iN f+1\/z∈jZ f a\/z∈jZ f b):
  ∃st,st'=st++[iN f+1]/\Cuts (iN f) (lH f a b) st:=by
 have ht:=kA f;have hends:∀z,z∈jZ f a\/z∈jZ f b->0<=z/\z<=iN f+1:=by
  intro z hz;have:∃x,(x∈a\/x∈b)/\(z=(x.get f).lo\/z=(x.get f).hi+1):=by
   rcases hz with hz|hz
   ·obtain⟨x,h1,h2⟩:=endsB_mem.1 hz;exact⟨x,.inl h1,h2⟩
   ·obtain⟨x,h1,h2⟩:=endsB_mem.1 hz;exact⟨x,.inr h1,h2⟩
  obtain⟨x,h1,h2⟩:=this;have:=hab x h1;have:=(x.get f).l0;omega
 have hb:∀z,z∈st'->0<=z/\z<=iN f+1:=by
  intro z hz;rcases(hm z).1 hz with h|h|h
  ·omega
  ·omega
  ·exact hends z h
 have htop:iN f+1∈st':=(hm _).2 (.inr (.inl rfl));have hzero:(0:Int)∈st':=(hm _).2 (.inl rfl);rcases cT st' with hn|⟨st,z,hc⟩
 ·rw[hn]at htop;cases htop
 rw[cU]at hc;subst hc;have hlt:=J9 hs;have hz:z=iN f+1:=by
  rcases aY.1 htop with h|h
  ·have:=hlt _ h;have:=hb z zx;omega
  ·simp at h;exact h.symm
 subst hz;have hin:∀z,z∈st++[iN f+1]->z<=iN f->z∈st:=by
  intro z hz hle;rcases aY.1 hz with h|h
  ·exact h
  ·simp at h;omega
 refine⟨st,rfl,?_,?_,?_,?_⟩
 ·exact(dM.1 hs).1
 ·intro x hx;have:=hlt x hx;have:=hb x (aY.2 (.inl hx));omega
 ·have h0:=hin 0 hzero ht.1;cases st with
  |nil=>cases h0
  |cons y r=>
   refine⟨r,?_⟩;have hp:=(dM.1 hs).1;rcases aV.1 h0 with h|h
   ·rw[h]
   ·have:=(bW.1 hp).1 0 h;have:=hb y zx;omega
 ·intro r hr hle;have:∃x,(x∈a\/x∈b)/\r=x.get f:=by
   rw[lH]at hr;rcases aY.1 hr with h|h
   ·obtain⟨x,h1,rfl⟩:=bU.1 h;exact⟨x,.inl h1,rfl⟩
   ·obtain⟨x,h1,rfl⟩:=bU.1 h;exact⟨x,.inr h1,rfl⟩
  obtain⟨x,hx,rfl⟩:=this;have e1:(x.get f).lo∈st++[iN f+1]:=(hm _).2 (.inr (.inr (hx.imp (fun h=>endsB_mem.2 ⟨x,h,.inl rfl⟩) (fun h=>endsB_mem.2 ⟨x,h,.inl rfl⟩))));have e2:(x.get f).hi+1∈st++[iN f+1]:=(hm _).2 (.inr (.inr (hx.imp (fun h=>endsB_mem.2 ⟨x,h,.inr rfl⟩) (fun h=>endsB_mem.2 ⟨x,h,.inr rfl⟩))));exact⟨fun h=>hin _ e1 h,fun h=>hin _ e2 h⟩
theorem Uz{top:Int}{st:List Int}{i:Nat}(h:i<st.length):(st++[top+1])[i+1]? =some (pO top st i+1):=by
 unfold pO;rcases aC (i+1) st.length with h1|h1
 ·rw[bE h1,aE h1];simp
 ·rw[bH h1,bN h1,show i+1-st.length=0 by omega];rfl
theorem X4{x t:Int}{rest:List Bx}{out:List (Grp (List Bx))}(s:Int×Int)(r:List Bx)(h:∃hi more,out=⟨x,hi,rest⟩::more):∃hi more,nH eqB out s r=⟨x,hi,rest⟩::more:=by
 obtain⟨hi,more,rfl⟩:=h;unfold nH;split
 ·exact⟨hi,more,rfl⟩
 ·rcases cT more with hn|⟨ini,g,hc⟩
  ·subst hn;simp only[cH];split
   ·exact⟨s.2,[],rfl⟩
   ·exact⟨hi,_,rfl⟩
  ·rw[cU]at hc;subst hc;rw[show(⟨x,hi,rest⟩::(ini++[g]):List (Grp (List Bx)))=(⟨x,hi,rest⟩::ini)++[g]from rfl];simp only[cS,cH,dN,dI];split
   ·exact⟨hi,_,rfl⟩
   ·exact⟨hi,_,rfl⟩
theorem Lm{R:Int->List Bx}{x:Int}{rest:List Bx}:∀(l:List (Int×Int)) (out:List (Grp (List Bx))),(∃hi more,out=⟨x,hi,rest⟩::more)->∃hi more,l.foldl (fun out s=>nH eqB out s (R s.1)) out=⟨x,hi,rest⟩::more
 |[],out,h=>h
 |s::l,out,h=>Lm l _ (X4 (t:=0) s (R s.1) h)
theorem Jg{R:Int->List Bx}{top:Int}{st:List Int}:∀(i:Nat),(∀(j:Nat) x,j<i->st[j]? =some x->R x=[])->oM R top st i=[]
 |0,_=>rfl
 |i+1,h=>by
  have ih:=Jg (R:=R) (top:=top) i fun j x hj hx=>h j x zo hx;cases hx:st[i]? with
  |none=>
   have hl:st.length<=i:=List.getElem?_eq_none_iff.1 hx;rw[wS zo,<-wS hl,ih]
  |some x=>rw[rW hx,ih,h i x zo hx,D1]
theorem Oc{R:Int->List Bx}{top:Int}{st:List Int}{i:Nat}{x:Int}(hx:st[i]? =some x)(hne:R x≠[])(h:∀(j:Nat) y,j<i->st[j]? =some y->R y=[]):∃hi more,kD R top st=⟨x,hi,R x⟩::more:=by
 have e:kD R top st=((lQ top st).drop (i+1)).foldl (fun out s=>nH eqB out s (R s.1)) (oM R top st (i+1)):=by
  rw[kD,oM,<-List.foldl_append,cN]
 rw[e];refine Lm _ _ ?_;rw[rW hx,Jg i h];refine⟨pO top st i,[],?_⟩;unfold nH;have:(R x).isEmpty=false:=by cases hR:R x with
  |nil=>exact absurd hR hne
  |cons=>rfl
 rw[aF (by rw[this];decide)];rfl
def Om(l:List Bx):Nat->Int:=match l with
 |[]=>fun _=>0
 |b::_=>fun f=>(b.get f).lo
theorem Yh{op:Bool->Bool->Bool}{k:Nat}(hk:k<=4){a b:List Bx}{st:List Int}(hc:Cuts (iN (4-k)) (lH (4-k) a b) st){i:Nat}{x:Int}(hx:st[i]? =some x)(hne:iM op k a b x≠[])(h:∀(j:Nat) y,j<i->st[j]? =some y->iM op k a b y=[]):
  iX op (k+1) a b≠[]/\Om (iX op (k+1) a b) (4-k)=x/\∀f,f<=4->f≠4-k->Om (iX op (k+1) a b) f=Om (iM op k a b x) f:=by
 obtain⟨hi,more,hg⟩:=Oc (top:=iN (4-k)) hx hne h;have inv:=oB op k a b hc;rw[Ih op k a b hc,hg];rw[hg]at inv;have hle:=inv.wf.head;have hr:=hc.range x (aI hx);have hhi:=inv.low ⟨x,hi,iM op k a b x⟩ zx;have ht:=kA (4-k);simp only at hhi hle;obtain⟨y,ys,hy⟩:∃y ys,iM op k a b x=y::ys:=by
  cases hR:iM op k a b x with
  |nil=>exact absurd hR hne
  |cons y ys=>exact⟨y,ys,rfl⟩
 rw[hy];refine⟨by simp[iR],?_,fun f hf hn=>?_⟩
 ·show((y.put (4-k) (mkR x hi)).get (4-k)).lo=x;rw[oR zo,kC zo zo zo zo]
 ·show((y.put (4-k) (mkR x hi)).get f).lo=(y.get f).lo;rw[qA zo hf hn]
def InP(p:Nat->Int):Prop:=∀f,0<=p f/\p f<=iN f
theorem aBL:InP fun _=>0:=fun f=>⟨cC _,(kA f).1⟩
theorem GInv.congr{β:Type}{R R':Int->List β}{l:List (Grp (List β))}{e:Int}(h:GInv R l e)(hR:∀v,0<=v->v<e->R v=R' v):GInv R' l e:=
 ⟨h.wf,fun v=>by
  rw[h.at_];by_cases hv:0<=v/\v<e
  ·rw[aH hv,aH hv,lab,lab,hR v hv.1 hv.2]
  ·rw[aF hv,aF hv],h.low,h.full⟩
theorem Lu{p q:Nat->Int}:∀(k:Nat) (b:Bx),k<=5->(∀f,f<=4->5<=f+k->p f=q f)->inK p k b=inK q k b
 |0,b,_,_=>rfl
 |k+1,b,hk,h=>by
  rw[inK,inK,h (4-k) zo zo,Lu k b zo fun f hf h5=>h f hf zo]
theorem Uj{p q:Nat->Int}{k:Nat}{l:List Bx}(hk:k<=5)(h:∀f,f<=4->5<=f+k->p f=q f):iZ p k l=iZ q k l:=by
 rw[iZ,iZ]
 induction l with
 |nil=>rfl
 |cons b l ih=>rw[List.any_cons,List.any_cons,ih,Lu k b hk h]
theorem inK_iff{p:Nat->Int}{b:Bx}:inK p 5 b=true↔∀f,f<=4->(b.get f).lo<=p f/\p f<=(b.get f).hi:=by
 simp only[inK,aJ,aM,and_true];constructor
 ·rintro h f hf
  obtain rfl|rfl|rfl|rfl|rfl:f=0\/f=1\/f=2\/f=3\/f=4:=by omega
  all_goals simp_all
 ·intro h;have h0:=h 0 zo;have h1:=h 1 zo;have h2:=h 2 zo;have h3:=h 3 zo;have h4:=h 4 zo;simp_all
theorem memK_iff{p:Nat->Int}{l:List Bx}:iZ p 5 l=true↔∃b,b∈l/\inK p 5 b=true:=by rw[iZ,dE]
theorem aBK{p:Nat->Int}(h:∀f,f<=4->0<=p f/\p f<=iN f):∃q,InP q/\∀f,f<=4->q f=p f:=by
 refine⟨fun f=>if f<=4 then p f else 0,fun f=>?_,fun f hf=>by simp only[hf,if_true]⟩;by_cases hf:f<=4
 ·simp only[hf,if_true];exact h f hf
 ·simp only[hf,if_false];exact⟨cC _,(kA f).1⟩
theorem E9{b:Bx}(h:∀f,f<=4->(b.get f).lo<=(b.get f).hi/\(b.get f).hi<=iN f):∃p,InP p/\inK p 5 b=true:=by
 obtain⟨q,hq,he⟩:=aBK (p:=fun f=>(b.get f).lo) fun f hf=>⟨(b.get f).l0,by have:=h f hf;omega⟩
 refine⟨q,hq,?_⟩;rw[inK_iff];intro f hf;rw[he f hf];exact⟨cC _,(h f hf).1⟩
theorem rM(op:Bool->Bool->Bool)(a b:List Bx):iX op 5 a b=[]↔∀p,InP p->op (iZ p 5 a) (iZ p 5 b)=false:=by
 constructor
 ·intro h p hp;rw[<-oJ op hp 5 a b (aK _),h];rfl
 ·intro h;cases hc:iX op 5 a b with
  |nil=>rfl
  |cons x l=>
   exfalso;have hx:=Ea (aK 5) (Hi op 5 a b (aK _) x (by rw[hc];simp));obtain⟨p,hp,hi⟩:=E9 (b:=x) fun f hf=>by have:=hx f hf;rw[aH zo]at this;exact this
   have:=oJ op hp 5 a b (aK _);rw[h p hp,hc,iZ,List.any_cons,hi]at this;cases this
def woB(x y:Bool):Bool:=x&& !y
def anB(x y:Bool):Bool:=x&&y
def aVd(a b:List Bx):Prop:=∀p,InP p->iZ p 5 a=true->iZ p 5 b=true
theorem Z9(a b:List Bx):iX woB 5 a b=[]↔aVd a b:=by
 rw[rM];constructor
 ·intro h p hp ha;have:=h p hp;rw[woB,ha]at this;simpa using this
 ·intro h p hp;rw[woB];cases ha:iZ p 5 a with
  |false=>rfl
  |true=>rw[h p hp ha];rfl
def aJJ(x y:Bx):Prop:=∀f,f<=4->(x.get f).lo<=(y.get f).hi/\(y.get f).lo<=(x.get f).hi
theorem Xq{a b:List Bx}(ha:∀x,x∈a->∀f,f<=4->(x.get f).lo<=(x.get f).hi/\(x.get f).hi<=iN f)(hb:∀x,x∈b->∀f,f<=4->(x.get f).lo<=(x.get f).hi/\(x.get f).hi<=iN f):
  iX anB 5 a b=[]↔∀x,x∈a->∀y,y∈b->¬aJJ x y:=by
 rw[rM];constructor
 ·intro h x hx y hy hm;obtain⟨q,hq,he⟩:=aBK (p:=fun f=>max (x.get f).lo (y.get f).lo) fun f hf=>by
   have:=ha x hx f hf;have:=hb y hy f hf;have:=hm f hf;have:=(x.get f).l0;omega
  have h1:iZ q 5 a=true:=memK_iff.2 ⟨x,hx,inK_iff.2 fun f hf=>by
   have:=ha x hx f hf;have:=hb y hy f hf;have:=hm f hf;rw[he f hf];omega⟩
  have h2:iZ q 5 b=true:=memK_iff.2 ⟨y,hy,inK_iff.2 fun f hf=>by
   have:=ha x hx f hf;have:=hb y hy f hf;have:=hm f hf;rw[he f hf];omega⟩
  have:=h q hq;rw[h1,h2]at this;cases this
 ·intro h p hp;cases h1:iZ p 5 a with
  |false=>rfl
  |true=>
   cases h2:iZ p 5 b with
   |false=>rfl
   |true=>
    obtain⟨x,hx,hix⟩:=memK_iff.1 h1;obtain⟨y,hy,hiy⟩:=memK_iff.1 h2;exact absurd (fun f hf=>by
     have:=inK_iff.1 hix f hf;have:=inK_iff.1 hiy f hf;omega) (h x hx y hy)
theorem aTF:opI 1=anB:=by funext x y;rfl
theorem aTG:opI 2=woB:=by funext x y;rfl
theorem aAv(a b:List Bx)(ha:a.length<1000000000)(hb:b.length<1000000000){K:KT}(hK:K (.tup [iE (iF anB a b).1,.v (.int .i64 (iF anB a b).2)]) []):AC 39 [iE a,iE b] [] K:=by
 have hc:∀{K:KT},K (.tup [iE (iF anB a b).1,.v (.int .i64 (iF anB a b).2)]) []->AC 101 [iE a,iE b,.v (.int .i64 1)] [] K:=fun h=>No 1 a b ha hb (by rw[aTF];exact h);refine aHq rfl rfl ?_;(repeat' ((conv=>whnf);first|(with_reducible refine hc ?_)|refine zG ?_|apply zA|intro h|exact zT));all_goals conv=>whnf
 exact hK
theorem aQx(a b:List Bx)(ha:a.length<1000000000)(hb:b.length<1000000000){K:KT}(hK:K (.tup [iE (iF orB a b).1,.v (.int .i64 (iF orB a b).2)]) []):AC 41 [iE a,iE b] [] K:=by
 have hc:∀{K:KT},K (.tup [iE (iF orB a b).1,.v (.int .i64 (iF orB a b).2)]) []->AC 101 [iE a,iE b,.v (.int .i64 0)] [] K:=fun h=>No 0 a b ha hb (by rw[Wx];exact h);refine aOD rfl rfl ?_;(repeat' ((conv=>whnf);first|(with_reducible refine hc ?_)|refine zG ?_|apply zA|intro h|exact zT));all_goals conv=>whnf
 exact hK
theorem aKF(a b:List Bx)(ha:a.length<1000000000)(hb:b.length<1000000000){K:KT}(hK:K (.tup [iE (iF woB a b).1,.v (.int .i64 (iF woB a b).2)]) []):AC 40 [iE a,iE b] [] K:=by
 have hc:∀{K:KT},K (.tup [iE (iF woB a b).1,.v (.int .i64 (iF woB a b).2)]) []->AC 101 [iE a,iE b,.v (.int .i64 2)] [] K:=fun h=>No 2 a b ha hb (by rw[aTG];exact h);refine aHu rfl rfl ?_;(repeat' ((conv=>whnf);first|(with_reducible refine hc ?_)|refine zG ?_|apply zA|intro h|exact zT));all_goals conv=>whnf
 exact hK
def fb(p0 p1 s0 s1 d0 d1:Int):Bx:=⟨mkR 0 4294967295,mkR 0 4294967295,mkR p0 p1,mkR s0 s1,mkR d0 d1⟩
def aBN:List Bx:=[fb 0 0 0 0 0 0,fb 2 5 0 0 0 0,fb 7 16 0 0 0 0,fb 18 255 0 0 0 0,fb 6 6 0 65535 0 65535,fb 17 17 0 65535 0 65535,fb 1 1 0 7 8 8,fb 1 1 9 65535 8 8]
def initS:List Bx:=[fb 0 0 0 0 0 0,fb 1 1 0 7 8 8,fb 1 1 9 65535 8 8,fb 2 5 0 0 0 0,fb 6 6 0 65535 0 65535,fb 7 16 0 0 0 0,fb 17 17 0 65535 0 65535,fb 18 255 0 0 0 0]
theorem Ji:iX orB 5 (jN aBN) []=initS:=by decide+kernel
theorem Vr{K:KT}(hK:K (iE initS) []):AC 99 [] [] K:=by
 have hc:∀{K:KT},K (iE initS) []->AC 185 [iE aBN] [] K:=fun h=>aAt aBN zd (by rw[Ji];decide) (by rw[Ji];exact h);refine aCH rfl rfl ?_;(repeat' ((conv=>whnf);first|(with_reducible refine Lp.times 6 ?_)|(refine kP zd ?_)|(refine gV rfl ?_)|(with_reducible refine Nn ?_)|(refine hc ?_)|refine zG ?_|apply zA|intro h|exact zT));all_goals conv=>whnf
 exact hK
def okL(l:List Bx):Prop:=∀x,x∈l->∀f,f<=4->(x.get f).lo<=(x.get f).hi/\(x.get f).hi<=iN f
theorem Ov{f:Nat}{v:Int}{l:List Bx}(h:okL l):okL (atF f v l):=fun x hx=>h x (cI.1 hx).1
theorem Ow:okL []:=fun x hx=>by simp at hx
theorem wZ(op:Bool->Bool->Bool)(a b:List Bx):okL (iX op 5 a b):=fun x hx f hf=>by
 have:=Ea (aK 5) (Hi op 5 a b (aK _) x hx) f hf;rw[aH zo]at this;exact this
theorem Ww(l:List Bx):okL (jN l):=fun x hx=>Ox (by simpa using(cI.1 hx).2)
theorem oT{l:List Bx}(h:kN l=true):okL l:=by
 rw[<-Ml h];exact wZ orB l []
theorem zX:∀(l s:List Bx),okL s->okL (kH s l).1
 |[],s,h=>h
 |b::l,s,h=>by
  rw[kH];split
  ·split
   ·exact Ow
   ·exact zX l _ (wZ _ _ _)
  ·exact zX l s h
theorem Wv(l:List Bx):okL (mK l).1:=by
 unfold mK;split
 ·exact oT zp
 ·exact zX l [] Ow
def aNk:Ctx:={N:=14,plan:=p1 1 (ln [1,2,5,7,13,15,17,8,11,19,21,23]) pn}
abbrev aIc:=ofD aNk Tryz.func34
def aUs:Ctx:={N:=31}
abbrev aTx:=ofD aUs Tryz.func120
def aLR:Ctx:={N:=40,np:=1,own:=oz [11],plan:=p1 5 (lz [1,5,9,15,21,29] (.wch 1 (.wch 3 (.wch 5 (lz [13] (.wch 8 (lz [19] (.wch 11 (lz [25] (.alt 13 (ln [30,33,35,37]) (.alt 15 (ln [26,33,35,37]) Aa))))))))))) pn}
abbrev aGI:=ofD aLR Tryz.func47
def aNg:Ctx:={N:=11}
abbrev aHY:=ofD aNg Tryz.func73
def aNf:Ctx:={N:=5}
abbrev aHX:=ofD aNf Tryz.func144
def aBo:Ctx:={N:=9}
abbrev Ym:=ofD aBo Tryz.func143
def sEq(a b:ByteArray):Bool:=a.toList==b.toList
def Dr(l:List Dv)(n:ByteArray):Int:=jJ (fun d=>sEq d.name n) l
def lP(l:List Ed)(n:ByteArray):Int:=jJ (fun d=>sEq d.name n) l
theorem aKY(d:Dv)(n:ByteArray){K:KT}(hK:K (.sb (sEq d.name n)) []):AC 283 [tN d,.fp [.v (.string n)]] [] K:=by
 refine aHZ rfl rfl ?_
 iterate 9 (all_goals((conv=>whnf);first|refine zG ?_|apply zA|intro h|exact zT|skip))
 exact hK
theorem aQI(t:Tp)(n:ByteArray)(hl:t.devs.length<1000000){K:KT}(hK:K (.v (.int .i64 (Dr t.devs n))) []):AC 212 [kB t,.v (.string n)] [] K:=by
 refine aOV rfl rfl ?_
 iterate 9 (all_goals((conv=>whnf);first|(with_reducible refine aAf _ _ _ (fun d=>sEq d.name n) (fun x K h=>aKY x n h) hl ?_)|refine zG ?_|apply zA|intro h|exact zT|skip))
 exact hK
theorem aQK(t:Tp)(n:ByteArray)(hl:t.devs.length<1000000){K:KT}(hK:K (.v (.int .i64 (Dr t.devs n))) []):AC 238 [kB t,.v (.string n)] [] K:=by
 refine aOY rfl rfl ?_
 iterate 4 (all_goals((conv=>whnf);first|refine zG ?_|apply zA|intro h|exact zT|skip))
 refine gM Nat (fun k=>⟨1,[(0,.box [.lst (t.devs.map tN),.lst (t.links.map Qq),.lst (t.edges.map mX),.lst (t.pools.map mT),.v (.int .i64 t.tol)])],[(1,.v (.string n)),(2,.op 0 0),(5,.v (.int .i64 k))]⟩) (fun k=>k<=t.devs.length/\∀(i:Nat) y,i<k->t.devs[i]? =some y->sEq y.name n=false) (fun k=>t.devs.length-k) 0 ?_ ?_ ?_
 ·exact⟨aO _,fun i y hi=>absurd hi (bC _)⟩
 ·exact⟨[(0,0)],rfl,⟨rfl,rfl,rfl,trivial⟩,rfl,trivial⟩
 ·intro k ⟨hk,hinv⟩;rcases aC k t.devs.length with hkl|hkl
  ·obtain⟨r,hr⟩:=gex hkl
   iterate 14 (all_goals((conv=>whnf);first|(with_reducible first|refine hZ hkl ?_|refine hU hr ?_)|refine zG ?_|apply zA|intro h|exact zT|skip))
   ·rw[Dr,jQ hr h hinv]at hK;exact hK
   ·exact⟨k+1,⟨by omega,jY hr h hinv⟩,by omega,⟨[(0,0)],rfl,⟨rfl,rfl,rfl,trivial⟩,rfl,trivial⟩⟩
  ·iterate 8 (all_goals((conv=>whnf);first|refine zG ?_|apply zA|intro h|exact zT|skip))
   rw[Dr,jS (iC hkl hinv)]at hK;exact hK
theorem aEK(d:Ed)(n:ByteArray){K:KT}(hK:K (.sb (sEq d.name n)) []):AC 227 [mX d,.fp [.v (.string n)]] [] K:=by
 refine aCY rfl rfl ?_
 iterate 9 (all_goals((conv=>whnf);first|refine zG ?_|apply zA|intro h|exact zT|skip))
 exact hK
theorem Ti(t:Tp)(n:ByteArray)(hl:t.edges.length<1000000){K:KT}(hK:K (.v (.int .i64 (lP t.edges n))) []):AC 148 [kB t,.v (.string n)] [] K:=by
 refine aIa rfl rfl ?_
 iterate 9 (all_goals((conv=>whnf);first|(with_reducible refine Vl _ _ _ (fun d=>sEq d.name n) (fun x K h=>aEK x n h) hl ?_)|refine zG ?_|apply zA|intro h|exact zT|skip))
 exact hK
theorem Tj(t:Tp)(n:ByteArray)(hl:t.edges.length<1000000){K:KT}(hK:K (.v (.int .i64 (lP t.edges n))) []):AC 96 [kB t,.v (.string n)] [] K:=by
 refine aIe rfl rfl ?_
 iterate 4 (all_goals((conv=>whnf);first|refine zG ?_|apply zA|intro h|exact zT|skip))
 refine gM Nat (fun k=>⟨1,[(0,.box [.lst (t.devs.map tN),.lst (t.links.map Qq),.lst (t.edges.map mX),.lst (t.pools.map mT),.v (.int .i64 t.tol)])],[(1,.v (.string n)),(2,.op 0 0),(5,.v (.int .i64 k))]⟩) (fun k=>k<=t.edges.length/\∀(i:Nat) y,i<k->t.edges[i]? =some y->sEq y.name n=false) (fun k=>t.edges.length-k) 0 ?_ ?_ ?_
 ·exact⟨aO _,fun i y hi=>absurd hi (bC _)⟩
 ·exact⟨[(0,0)],rfl,⟨rfl,rfl,rfl,trivial⟩,rfl,trivial⟩
 ·intro k ⟨hk,hinv⟩;rcases aC k t.edges.length with hkl|hkl
  ·obtain⟨r,hr⟩:=gex hkl
   iterate 14 (all_goals((conv=>whnf);first|(with_reducible first|refine hZ hkl ?_|refine hU hr ?_)|refine zG ?_|apply zA|intro h|exact zT|skip))
   ·rw[lP,jQ hr h hinv]at hK;exact hK
   ·exact⟨k+1,⟨by omega,jY hr h hinv⟩,by omega,⟨[(0,0)],rfl,⟨rfl,rfl,rfl,trivial⟩,rfl,trivial⟩⟩
  ·iterate 8 (all_goals((conv=>whnf);first|refine zG ?_|apply zA|intro h|exact zT|skip))
   rw[lP,jS (iC hkl hinv)]at hK;exact hK
def Gh(d:Dv):Prop:=nQ d.name/\0<=d.cap/\d.cap<=4096/\(sEq d.cls ⟨#[]⟩=true\/nQ d.cls)
open Classical in
def Tm(d:Dv):Bool:=decide (Gh d)
theorem Ld{d:Dv}(h:Gh d):Tm d=true:=by simp[Tm,h]
theorem Tn{d:Dv}(h:¬Gh d):Tm d=false:=by simp[Tm,h]
theorem devB_iff{d:Dv}:Tm d=true↔Gh d:=by simp[Tm]
theorem qE{s:ByteArray}(h:kW s=false):¬nQ s:=fun hn=>by rw[nD hn]at h;cases h
theorem aEJ(d:Dv){K:KT}(hK:K (.sb (Tm d)) []):AC 211 [tN d] [] K:=by
 refine gP (aCX rfl rfl ?_)
 iterate 30 (all_goals((conv=>whnf);first|(with_reducible refine tM _ ?_)|refine zG ?_|apply zA|intro h|exact zT|skip))
 all_goals first
  |(refine jU hK (Ld ⟨nameB_iff.1 zp,by omega,by omega,?_⟩);exact .inl zp)
  |(refine jP hK ?_
    rw[bK,devB_iff,nameB_iff];refine⟨fun hh=>hh.2.2.2.resolve_left (by rw[sEq,h];simp),fun hh=>⟨nameB_iff.1 zp,by omega,by omega,.inr hh⟩⟩)
  |(refine iL hK (Tn fun hn=>?_)
    obtain⟨n1,n2,n3,n4⟩:=hn
    first|omega|exact qE zp n1)
def zK(n:Int)(e:Ed):Prop:=nQ e.name/\nQ e.zone/\0<=e.dev/\e.dev<n/\1<=e.pf.bits/\e.pf.okP/\(e.pl=false\/e.pf.addr=0)
open Classical in
def Dt(n:Int)(e:Ed):Bool:=decide (zK n e)
theorem uX{n:Int}{e:Ed}(h:zK n e):Dt n e=true:=by simp[Dt,h]
theorem Gi{n:Int}{e:Ed}(h:¬zK n e):Dt n e=false:=by simp[Dt,h]
theorem aJL{e:Ed}(h:e.pl=true):¬e.pl=false:=by simp[h]
theorem edgeB_iff{n:Int}{e:Ed}:Dt n e=true↔zK n e:=by simp[Dt]
theorem aAD(t:Tp)(e:Ed){K:KT}(hK:K (.sb (Dt t.devs.length e)) []):AC 213 [kB t,mX e] [] K:=by
 refine gP (Yy rfl rfl ?_)
 iterate 50 (all_goals((conv=>whnf);first|(with_reducible first|refine tM _ ?_|refine Im e.pf ?_)|refine zG ?_|apply zA|intro h|exact zT|skip))
 all_goals(try simp only[aA]at*)
 all_goals first
  |(refine jU hK (uX ⟨nameB_iff.1 zp,nameB_iff.1 zp,by omega,by omega,by omega,by assumption,.inl zp⟩))
  |(refine jP hK ?_
    rw[bK,edgeB_iff,aM];refine⟨fun hh=>hh.2.2.2.2.2.2.resolve_left (aJL zp),fun hh=>⟨nameB_iff.1 zp,nameB_iff.1 zp,by omega,by omega,by omega,by assumption,.inr hh⟩⟩)
  |(refine iL hK (Gi fun hn=>?_)
    obtain⟨n1,n2,n3,n4,n5,n6,n7⟩:=hn
    first|omega|(exact absurd n6 zp)|exact qE zp n1|exact qE zp n2)
theorem aAE(e:Ed)(n:Int){K:KT}(hK:K (.sb (Dt n e)) []):AC 168 [mX e,.v (.int .i64 n)] [] K:=by
 refine gP (Yz rfl rfl ?_)
 iterate 50 (all_goals((conv=>whnf);first|(with_reducible first|refine wG _ ?_|refine Qk e.pf ?_)|refine zG ?_|apply zA|intro h|exact zT|skip))
 all_goals(try simp only[aA]at*)
 all_goals first
  |(refine jU hK (uX ⟨nameB_iff.1 zp,nameB_iff.1 zp,by omega,by omega,by omega,by assumption,.inl zp⟩))
  |(refine jP hK ?_
    rw[bK,edgeB_iff,aM];refine⟨fun hh=>hh.2.2.2.2.2.2.resolve_left (aJL zp),fun hh=>⟨nameB_iff.1 zp,nameB_iff.1 zp,by omega,by omega,by omega,by assumption,.inr hh⟩⟩)
  |(refine iL hK (Gi fun hn=>?_)
    obtain⟨n1,n2,n3,n4,n5,n6,n7⟩:=hn
    first|omega|(exact absurd n6 zp)|exact qE zp n1|exact qE zp n2)
def Jp(n:Int)(l:Lk):Prop:=0<=l.a/\l.a<l.b/\l.b<n/\1<=l.cost/\l.cost<=1000
def H4(e o:Ed):Prop:=¬(e.pl=false/\o.pl=false/\e.pf.meet o.pf=true)
theorem take_get{α:Type}{l:List α}{k j:Nat}{o:α}:(l.take k)[j]? =some o↔(j<k/\l[j]? =some o):=by
 rw[cW];split
 ·rename_i h;exact⟨fun h1=>⟨h,h1⟩,fun h1=>h1.2⟩
 ·rename_i h;refine⟨fun h1=>?_,fun h1=>absurd h1.1 h⟩;cases h1
structure TopOk (t:Tp):Prop where
 d0:1<=t.devs.length
 d1:t.devs.length<=12
 l1:t.links.length<=24
 e1:t.edges.length<=12
 p1:t.pools.length<=8
 t0:0<=t.tol
 t1:t.tol<=2
 dev:∀(i:Nat) d,t.devs[i]? =some d->Gh d/\Dr t.devs d.name=i
 link:∀(i:Nat) l,t.links[i]? =some l->Jp t.devs.length l
 edge:∀(i:Nat) e,t.edges[i]? =some e->zK t.devs.length e/\lP t.edges e.name=i
 apart:∀(i:Nat) e,t.edges[i]? =some e->∀(j:Nat) o,j<i->t.edges[j]? =some o->H4 e o
 pool:∀(i:Nat) p,t.pools[i]? =some p->p.okP/\∀(j:Nat) q,j<i->t.pools[j]? =some q->p.meet q=false
open Classical in
def Pm(t:Tp):Bool:=decide (TopOk t)
theorem Mt{t:Tp}(h:TopOk t):Pm t=true:=by simp[Pm,h]
theorem kE{t:Tp}(h:¬TopOk t):Pm t=false:=by simp[Pm,h]
theorem aDY{t:Tp}:Pm t=true↔TopOk t:=by simp[Pm]
theorem aKZ(p q:Pf){K:KT}(hK:K (.sb (p.meet q)) []):AC 216 [mT q,.fp [.v (.int .u32 p.addr),.v (.int .i64 p.bits)]] [] K:=by
 refine aIb rfl rfl ?_
 iterate 9 (all_goals((conv=>whnf);first|(with_reducible refine aJr p q ?_)|refine zG ?_|apply zA|intro h|exact zT|skip))
 exact hK
theorem aKg(l:List Pf)(p:Pf)(hl:l.length<1000000){K:KT}(hK:K (.sb (l.any fun q=>p.meet q)) []):
  AC 215 [.lst (l.map mT),.fn (.func 216) [] [.fp [.v (.int .u32 p.addr),.v (.int .i64 p.bits)]]] [] K:=by
 refine gP (aGw rfl rfl ?_)
 iterate 9 (all_goals((conv=>whnf);first|(with_reducible refine aQb _ _ _ (fun q=>p.meet q) (fun x K h=>aKZ p x h) hl ?_)|refine zG ?_|apply zA|intro h|exact zT|skip))
 refine jP hK ?_;rw[bK,dE,aM];constructor
 ·rintro⟨x,hx,hp⟩
  unfold jJ;split
  ·omega
  ·rename_i hn;rw[fR]at hn;have:=hn x hx;simp_all
 ·intro h;unfold jJ at h;split at h
  ·rename_i i hi;rw[dU]at hi;obtain⟨h1,h2,_⟩:=hi;exact⟨_,cX h1,h2⟩
  ·omega
abbrev kU(t:Tp):Vm.Obj:=.box [.lst (t.devs.map tN),.lst (t.links.map Qq),.lst (t.edges.map mX),.lst (t.pools.map mT),.v (.int .i64 t.tol)]
theorem aQJ(t:Tp){K:KT}(hK:K (.sb (Pm t)) []):AC 142 [kB t] [] K:=by
 refine gP (aOX rfl rfl ?_)
 iterate 50 (all_goals((conv=>whnf);first|refine zG ?_|apply zA|intro h|exact zT|skip))
 all_goals first
  |(exact iL hK (kE fun hn=>by
    have:=hn.d0;have:=hn.d1;have:=hn.l1;have:=hn.e1;have:=hn.p1;have:=hn.t0;have:=hn.t1;simp only[aA]at*;omega))
  |skip
 obtain⟨d0,d1,l1,e1,p1,t0,t1⟩:1<=t.devs.length/\t.devs.length<=12/\t.links.length<=24/\t.edges.length<=12/\t.pools.length<=8/\0<=t.tol/\t.tol<=2:=by
  simp only[aA]at*;omega
 refine gM Nat (fun k=>⟨1,[(0,kU t)],[(1,.op 0 0),(52,.lst (t.devs.map tN)),(53,.v (.int .i64 (t.devs.map tN).length)),(54,.v (.int .i64 k))]⟩)
  (fun k=>k<=t.devs.length/\∀(i:Nat) d,i<k->t.devs[i]? =some d->Gh d/\Dr t.devs d.name=i) (fun k=>t.devs.length-k) 0 ?_ ?_ ?_
 ·exact⟨aO _,fun i y hi=>absurd hi (bC _)⟩
 ·exact⟨[(0,0)],rfl,⟨rfl,rfl,rfl,rfl,trivial⟩,rfl,trivial⟩
 intro k ⟨hk,hinv⟩;rcases aC k t.devs.length with hkl|hkl
 ·obtain⟨r,hr⟩:=gex hkl
  iterate 40 (all_goals((conv=>whnf);first|(with_reducible first|refine hZ hkl ?_|refine hU hr ?_|refine aEJ r ?_|refine aQI t _ zo ?_)|refine zG ?_|apply zA|intro h|exact zT|skip))
  ·exact⟨k+1,⟨by omega,iD hr ⟨devB_iff.1 zp,h⟩ hinv⟩,by omega,⟨[(0,0)],rfl,⟨rfl,rfl,rfl,rfl,trivial⟩,rfl,trivial⟩⟩
  ·exact iL hK (kE fun hn=>h (hn.dev k r hr).2)
  ·exact iL hK (kE fun hn=>by rw[Ld (hn.dev k r hr).1]at h;cases h)
 have hdev:=iC hkl hinv
 iterate 20 (all_goals((conv=>whnf);first|refine zG ?_|apply zA|intro h|exact zT|skip))
 refine gM Nat (fun k=>⟨1,[(0,kU t)],[(1,.op 0 0),(72,.lst (t.links.map Qq)),(73,.v (.int .i64 (t.links.map Qq).length)),(74,.v (.int .i64 k))]⟩)
  (fun k=>k<=t.links.length/\∀(i:Nat) d,i<k->t.links[i]? =some d->Jp t.devs.length d) (fun k=>t.links.length-k) 0 ?_ ?_ ?_
 ·exact⟨aO _,fun i y hi=>absurd hi (bC _)⟩
 ·exact⟨[(0,0)],rfl,⟨rfl,rfl,rfl,rfl,trivial⟩,rfl,trivial⟩
 intro k ⟨hk,hinv⟩;rcases aC k t.links.length with hkl|hkl
 ·obtain⟨r,hr⟩:=gex hkl
  iterate 50 (all_goals((conv=>whnf);first|(with_reducible first|refine hZ hkl ?_|refine hU hr ?_)|refine zG ?_|apply zA|intro h|exact zT|skip))
  all_goals first
   |(refine iL hK (kE fun hn=>?_)
     obtain⟨n1,n2,n3,n4,n5⟩:=hn.link k r hr;simp only[aA]at*;omega)
   |(refine⟨k+1,⟨by omega,iD hr ?_ hinv⟩,by omega,⟨[(0,0)],rfl,⟨rfl,rfl,rfl,rfl,trivial⟩,rfl,trivial⟩⟩
     unfold Jp;simp only[aA]at*;omega)
 have hlink:=iC hkl hinv
 iterate 20 (all_goals((conv=>whnf);first|refine zG ?_|apply zA|intro h|exact zT|skip))
 refine gM Nat (fun k=>⟨1,[(0,kU t)],[(1,.op 0 0),(108,.lst (t.edges.map mX)),(109,.v (.int .i64 (t.edges.map mX).length)),(110,.v (.int .i64 k))]⟩)
  (fun k=>k<=t.edges.length/\∀(i:Nat) e,i<k->t.edges[i]? =some e->(zK t.devs.length e/\lP t.edges e.name=i)/\∀(j:Nat) o,j<i->t.edges[j]? =some o->H4 e o) (fun k=>t.edges.length-k) 0 ?_ ?_ ?_
 ·exact⟨aO _,fun i y hi=>absurd hi (bC _)⟩
 ·exact⟨[(0,0)],rfl,⟨rfl,rfl,rfl,rfl,trivial⟩,rfl,trivial⟩
 intro k ⟨hk,hinv⟩;rcases aC k t.edges.length with hkl|hkl
 ·obtain⟨r,hr⟩:=gex hkl
  iterate 40 (all_goals((conv=>whnf);first|(with_reducible first|refine hZ hkl ?_|refine hU hr ?_|refine aAD t r ?_|refine Ti t _ zo ?_)|refine zG ?_|apply zA|intro h|exact zT|skip))
  ·refine Hy zo ?_;have hlen:(t.edges.take k).length=k:=by simp;omega
   have hget:∀(j:Nat) o,(t.edges.take k)[j]? =some o↔j<k/\t.edges[j]? =some o:=fun j o=>take_get
   iterate 9 (all_goals((conv=>whnf);first|refine zG ?_|apply zA|intro h|exact zT|skip))
   refine gM Nat (fun j=>⟨2,[(1,.box [.v (.string r.name),.v (.int .i64 r.dev),.v (.string r.zone),.v (.int .u32 r.pf.addr),.v (.int .i64 r.pf.bits),.sb r.pl]),(0,kU t)],
    [(1,.op 0 0),(8,.op 1 0),(108,.lst (t.edges.map mX)),(109,.v (.int .i64 (t.edges.map mX).length)),(110,.v (.int .i64 k)),(130,.lst ((t.edges.take k).map mX)),(131,.v (.int .i64 ((t.edges.take k).map mX).length)),(132,.v (.int .i64 j))]⟩)
    (fun j=>j<=(t.edges.take k).length/\∀(i:Nat) o,i<j->(t.edges.take k)[i]? =some o->H4 r o) (fun j=>(t.edges.take k).length-j) 0 ?_ ?_ ?_
   ·exact⟨aO _,fun i y hi=>absurd hi (bC _)⟩
   ·exact⟨[(0,0),(1,1)],rfl,⟨rfl,rfl,rfl,rfl,rfl,rfl,rfl,rfl,trivial⟩,rfl,rfl,trivial⟩
   intro j ⟨hj,hinvj⟩;rcases aC j (t.edges.take k).length with hjl|hjl
   ·obtain⟨o,ho⟩:∃o,(t.edges.take k)[j]? =some o:=⟨_,aE hjl⟩
    have ho2:=(hget j o).1 ho
    iterate 40 (all_goals((conv=>whnf);first|(with_reducible first|refine hZ hjl ?_|refine hU ho ?_|refine aJr r.pf o.pf ?_)|refine zG ?_|apply zA|intro h|exact zT|skip))
    all_goals first
     |(refine iL hK (kE fun hn=>?_)
       exact hn.apart k r hr j o ho2.1 ho2.2 ⟨by assumption,by assumption,by assumption⟩)
     |(refine⟨j+1,⟨by omega,iD ho ?_ hinvj⟩,by omega,⟨[(0,0),(1,1)],rfl,⟨rfl,rfl,rfl,rfl,rfl,rfl,rfl,rfl,trivial⟩,rfl,rfl,trivial⟩⟩
       rintro⟨q1,q2,q3⟩
       simp_all)
   have hap:=iC hjl hinvj
   iterate 20 (all_goals((conv=>whnf);first|refine zG ?_|apply zA|intro h|exact zT|skip))
   exact⟨k+1,⟨by omega,iD hr ⟨⟨edgeB_iff.1 zp,by assumption⟩,fun j o h1 h2=>hap j o ((hget j o).2 ⟨h1,h2⟩)⟩ hinv⟩,by omega,⟨[(0,0)],rfl,⟨rfl,rfl,rfl,rfl,trivial⟩,rfl,trivial⟩⟩
  ·exact iL hK (kE fun hn=>h (hn.edge k r hr).2)
  ·exact iL hK (kE fun hn=>by rw[uX (hn.edge k r hr).1]at h;cases h)
 have hedge:=iC hkl hinv
 iterate 20 (all_goals((conv=>whnf);first|refine zG ?_|apply zA|intro h|exact zT|skip))
 refine gM Nat (fun k=>⟨1,[(0,kU t)],[(1,.op 0 0),(154,.lst (t.pools.map mT)),(155,.v (.int .i64 (t.pools.map mT).length)),(156,.v (.int .i64 k))]⟩)
  (fun k=>k<=t.pools.length/\∀(i:Nat) p,i<k->t.pools[i]? =some p->p.okP/\∀(j:Nat) q,j<i->t.pools[j]? =some q->p.meet q=false) (fun k=>t.pools.length-k) 0 ?_ ?_ ?_
 ·exact⟨aO _,fun i y hi=>absurd hi (bC _)⟩
 ·exact⟨[(0,0)],rfl,⟨rfl,rfl,rfl,rfl,trivial⟩,rfl,trivial⟩
 intro k ⟨hk,hinv⟩;rcases aC k t.pools.length with hkl|hkl
 ·obtain⟨r,hr⟩:=gex hkl;have hlen:(t.pools.take k).length=k:=by simp;omega
  have hget:∀(j:Nat) o,(t.pools.take k)[j]? =some o↔j<k/\t.pools[j]? =some o:=fun j o=>take_get
  iterate 40 (all_goals((conv=>whnf);first|(with_reducible first|refine hZ hkl ?_|refine hU hr ?_|refine Im r ?_|refine Hy zo ?_|refine aKg _ r zo ?_)|refine zG ?_|apply zA|intro h|exact zT|skip))
  ·refine iL hK (kE fun hn=>?_);obtain⟨q,hq1,hq2⟩:=dE.1 h;obtain⟨j,hj⟩:=bM.1 hq1;have hj2:=(hget j q).1 hj;rw[(hn.pool k r hr).2 j q hj2.1 hj2.2]at hq2;cases hq2
  ·refine⟨k+1,⟨by omega,iD hr ⟨by assumption,fun j q h1 h2=>?_⟩ hinv⟩,by omega,⟨[(0,0)],rfl,⟨rfl,rfl,rfl,rfl,trivial⟩,rfl,trivial⟩⟩;rw[fJ]at h;have:=h q (aI ((hget j q).2 ⟨h1,h2⟩));simpa using this
  ·exact iL hK (kE fun hn=>h (hn.pool k r hr).1)
 have hpool:=iC hkl hinv
 iterate 20 (all_goals((conv=>whnf);first|refine zG ?_|apply zA|intro h|exact zT|skip))
 exact jU hK (Mt ⟨d0,d1,l1,e1,p1,t0,t1,hdev,hlink,fun i e he=>(hedge i e he).1,fun i e he=>(hedge i e he).2,hpool⟩)
theorem Vx(p:Pf)(l:List Pf)(hl:l.length<1000000){K:KT}(hK:K (.sb (l.any fun q=>p.meet q)) []):AC 169 [mT p,.lst (l.map mT)] [] K:=by
 refine gP (aDa rfl rfl ?_)
 iterate 4 (all_goals((conv=>whnf);first|refine zG ?_|apply zA|intro h|exact zT|skip))
 refine gM Nat (fun k=>⟨1,[(0,.box [.v (.int .u32 p.addr),.v (.int .i64 p.bits)])],[(1,.lst (l.map mT)),(2,.op 0 0),(5,.v (.int .i64 k))]⟩) (fun k=>k<=l.length/\∀(i:Nat) q,i<k->l[i]? =some q->p.meet q=false) (fun k=>l.length-k) 0 ?_ ?_ ?_
 ·exact⟨aO _,fun i y hi=>absurd hi (bC _)⟩
 ·exact⟨[(0,0)],rfl,⟨rfl,rfl,rfl,trivial⟩,rfl,trivial⟩
 intro k ⟨hk,hinv⟩;rcases aC k l.length with hkl|hkl
 ·obtain⟨r,hr⟩:=gex hkl
  iterate 20 (all_goals((conv=>whnf);first|(with_reducible first|refine hZ hkl ?_|refine hU hr ?_|refine aKG p r ?_)|refine zG ?_|apply zA|intro h|exact zT|skip))
  ·exact jU hK (dE.2 ⟨r,aI hr,h⟩)
  ·exact⟨k+1,⟨by omega,iD hr h hinv⟩,by omega,⟨[(0,0)],rfl,⟨rfl,rfl,rfl,trivial⟩,rfl,trivial⟩⟩
 ·have hall:=iC hkl hinv
  iterate 12 (all_goals((conv=>whnf);first|refine zG ?_|apply zA|intro h|exact zT|skip))
  refine iL hK (fJ.2 fun q hq=>?_);obtain⟨j,hj⟩:=bM.1 hq;rw[hall j q hj];simp
def oK(l:List Ed):List Pf:=(l.filter fun e=> !e.pl).map (·.pf)
theorem Tz{l:List Ed}{k:Nat}{e:Ed}(h:l[k]? =some e):oK (l.take (k+1))=oK (l.take k)++(if e.pl then []else [e.pf]):=by
 unfold oK;rw[bF,h,cZ,aQ];cases he:e.pl<;>simp[he]
theorem Li(l:List Ed):(oK l).length<=l.length:=by
 unfold oK;rw[aA];exact dK _ _
theorem Vw(t:Tp)(hl:t.edges.length<1000000){K:KT}(hK:K (.lst ((oK t.edges).map mT)) []):AC 85 [kB t] [] K:=by
 refine aCZ rfl rfl ?_
 iterate 8 (all_goals((conv=>whnf);first|refine zG ?_|apply zA|intro h|exact zT|skip))
 refine gM Nat (fun k=>⟨2,[(1,.arr 2 ((oK (t.edges.take k)).map mT)),(0,kU t)],[(1,.op 0 0),(3,.os 1 2 0 (oK (t.edges.take k)).length),(4,.v (.int .i64 k))]⟩) (fun k=>k<=t.edges.length) (fun k=>t.edges.length-k) 0 ?_ ?_ ?_
 ·exact aO _
 ·exact⟨[(0,0),(1,1)],rfl,⟨rfl,rfl,rfl,trivial⟩,rfl,rfl,trivial⟩
 intro k hk;rcases aC k t.edges.length with hkl|hkl
 ·obtain⟨r,hr⟩:=gex hkl;have hs:=Tz hr;have hf:=Li (t.edges.take k);simp only[aZ]at hf
  iterate 30 (all_goals((conv=>whnf);first|(with_reducible first|refine hZ hkl ?_|refine hU hr ?_)|refine zG ?_|apply zA|intro h|exact zT|skip))
  ·refine⟨k+1,by omega,by omega,?_⟩;rw[hs,h,aH rfl,bI];exact⟨[(0,0),(1,1)],rfl,⟨rfl,rfl,rfl,trivial⟩,rfl,rfl,trivial⟩
  ·refine⟨k+1,by omega,by omega,?_⟩;rw[hs,h,aF zx,aQ,aD];exact⟨[(0,0),(1,3)],rfl,⟨rfl,rfl,rfl,trivial⟩,rfl,rfl,trivial⟩
 ·iterate 12 (all_goals((conv=>whnf);first|refine zG ?_|apply zA|intro h|exact zT|skip))
  rw[aU hkl];exact hK
theorem aLa(l:List Dv){K:KT}(hK:∀b,(b=true↔(1<=l.length/\l.length<=12)/\∀(i:Nat) d,l[i]? =some d->Gh d/\Dr l d.name=i)->K (.sb b) []):AC 167 [.lst (l.map tN)] [] K:=by
 refine gP (aId rfl rfl ?_)
 iterate 16 (all_goals((conv=>whnf);first|refine zG ?_|apply zA|intro h|exact zT|skip))
 all_goals first
  |(refine iL (hK false (iff_of_false zx fun hn=>?_)) rfl
    have:=hn.1;simp only[aA]at*;omega)
  |skip
 obtain⟨d0,d1⟩:1<=l.length/\l.length<=12:=by
  simp only[aA]at*;omega
 refine gM Nat (fun k=>⟨0,[],[(0,.lst (l.map tN)),(3,.v (.int .i64 k))]⟩)
  (fun k=>k<=l.length/\∀(i:Nat) d,i<k->l[i]? =some d->Gh d/\Dr l d.name=i) (fun k=>l.length-k) 0 ?_ ?_ ?_
 ·exact⟨aO _,fun i y hi=>absurd hi (bC _)⟩
 ·exact⟨[],rfl,⟨rfl,rfl,trivial⟩,trivial⟩
 intro k ⟨hk,hinv⟩;rcases aC k l.length with hkl|hkl
 ·obtain⟨r,hr⟩:=gex hkl;have hdv:∀(n:ByteArray) (K:AV->List Vm.Obj->Prop),K (.v (.int .i64 (Dr l n))) []->AC 238 [.agg [.lst (l.map tN),.lst [],.lst [],.lst [],.v (.int .i64 0)],.v (.string n)] [] K:=
   fun n K h=>aQK ⟨l,[],[],[],0⟩ n (by show l.length<1000000;omega) h
  iterate 90 (all_goals((conv=>whnf);first|(with_reducible first|refine hZ hkl ?_|refine hU hr ?_|refine wG _ ?_|refine hdv _ _ ?_)|refine zG ?_|apply zA|intro h|exact zT|skip))
  all_goals first
   |(refine iL (hK false (iff_of_false zx fun hn=>?_)) rfl
     obtain⟨⟨n1,n2,n3,n4⟩,n5⟩:=hn.2 k r hr
     first|omega|exact qE zp n1|exact n4.elim (fun n6=>by simp_all[sEq]) (fun n6=>qE zp n6)|(exact absurd n5 zp))
   |(refine⟨k+1,⟨by omega,iD hr ⟨⟨nameB_iff.1 zp,by omega,by omega,?_⟩,by assumption⟩ hinv⟩,by omega,⟨[],rfl,⟨rfl,rfl,trivial⟩,trivial⟩⟩
     first|exact .inr (nameB_iff.1 zp)|(left;simp_all[sEq];done))
 ·have hall:=iC hkl hinv
  iterate 12 (all_goals((conv=>whnf);first|refine zG ?_|apply zA|intro h|exact zT|skip))
  exact jU (hK true (iff_of_true rfl ⟨⟨d0,d1⟩,hall⟩)) rfl
theorem aDA{α:Type}{R:α->α->Prop}{l:List α}:l.Pairwise R↔∀(i:Nat) x,l[i]? =some x->∀(j:Nat) y,j<i->l[j]? =some y->R y x:=by
 rw[cJ];constructor
 ·intro h i x hx j y hj hy;obtain⟨h1,rfl⟩:=aP.1 hx;obtain⟨h2,rfl⟩:=aP.1 hy;exact h j i h2 h1 hj
 ·intro h i j hi hj hij;exact h j _ (aE hj) i _ hij (aE hi)
theorem fixed_apart{l:List Ed}:(∀(i:Nat) p,(oK l)[i]? =some p->∀(j:Nat) q,j<i->(oK l)[j]? =some q->p.meet q=false)↔∀(i:Nat) e,l[i]? =some e->∀(j:Nat) o,j<i->l[j]? =some o->H4 e o:=by
 rw[<-aDA (R:=fun q p:Pf=>p.meet q=false),<-aDA (R:=fun o e:Ed=>H4 e o),oK,gF,List.pairwise_filter];constructor
 ·refine List.Pairwise.imp fun {o e} h=>?_
  rintro⟨h1,h2,h3⟩
  rw[h (by simp[h2]) (by simp[h1])]at h3;cases h3
 ·refine List.Pairwise.imp fun {o e} h=>?_;intro h1 h2;cases hm:e.pf.meet o.pf with
  |false=>rfl
  |true=>exact absurd ⟨by simpa using h2,by simpa using h1,hm⟩ h
theorem aQL(t:Tp){K:KT}(hK:K (.sb (Pm t)) []):AC 84 [kB t] [] K:=by
 refine gP (aOZ rfl rfl ?_)
 iterate 6 (all_goals((conv=>whnf);first|refine zG ?_|apply zA|intro h|exact zT|skip))
 refine aLa t.devs fun db hdb=>?_
 iterate 50 (all_goals((conv=>whnf);first|refine zG ?_|apply zA|intro h|exact zT|skip))
 all_goals first
  |(exact iL hK (kE fun hn=>by
    have h0:=hdb.2 ⟨⟨hn.d0,hn.d1⟩,hn.dev⟩;have:=hn.l1;have:=hn.e1;have:=hn.p1;have:=hn.t0;have:=hn.t1;(try simp only[aA]at*)
    first|omega|(rw[h0]at h;cases h)))
  |skip
 obtain⟨l1,e1,p1,t0,t1⟩:t.links.length<=24/\t.edges.length<=12/\t.pools.length<=8/\0<=t.tol/\t.tol<=2:=by
  simp only[aA]at*;omega
 have hdb':=hdb.1 zp;refine gM Nat (fun k=>⟨1,[(0,kU t)],[(1,.op 0 0),(3,.v (.int .i64 k))]⟩)
  (fun k=>k<=t.links.length/\∀(i:Nat) d,i<k->t.links[i]? =some d->Jp t.devs.length d) (fun k=>t.links.length-k) 0 ?_ ?_ ?_
 ·exact⟨aO _,fun i y hi=>absurd hi (bC _)⟩
 ·exact⟨[(0,0)],rfl,⟨rfl,rfl,trivial⟩,rfl,trivial⟩
 intro k ⟨hk,hinv⟩;rcases aC k t.links.length with hkl|hkl
 ·obtain⟨r,hr⟩:=gex hkl
  iterate 50 (all_goals((conv=>whnf);first|(with_reducible first|refine hZ hkl ?_|refine hU hr ?_)|refine zG ?_|apply zA|intro h|exact zT|skip))
  all_goals first
   |(refine iL hK (kE fun hn=>?_)
     obtain⟨n1,n2,n3,n4,n5⟩:=hn.link k r hr;simp only[aA]at*;omega)
   |(refine⟨k+1,⟨by omega,iD hr ?_ hinv⟩,by omega,⟨[(0,0)],rfl,⟨rfl,rfl,trivial⟩,rfl,trivial⟩⟩
     unfold Jp;simp only[aA]at*;omega)
 have hlink:=iC hkl hinv
 iterate 20 (all_goals((conv=>whnf);first|refine zG ?_|apply zA|intro h|exact zT|skip))
 refine gM Nat (fun k=>⟨1,[(0,kU t)],[(1,.op 0 0),(5,.v (.int .i64 k))]⟩)
  (fun k=>k<=t.edges.length/\∀(i:Nat) e,i<k->t.edges[i]? =some e->zK t.devs.length e/\lP t.edges e.name=i) (fun k=>t.edges.length-k) 0 ?_ ?_ ?_
 ·exact⟨aO _,fun i y hi=>absurd hi (bC _)⟩
 ·exact⟨[(0,0)],rfl,⟨rfl,rfl,trivial⟩,rfl,trivial⟩
 intro k ⟨hk,hinv⟩;rcases aC k t.edges.length with hkl|hkl
 ·obtain⟨r,hr⟩:=gex hkl;have hed:∀(K:AV->List Vm.Obj->Prop),K (.sb (Dt t.devs.length r)) []->AC 168 [mX r,.v (.int .i64 (t.devs.map tN).length)] [] K:=fun K h=>aAE r _ (by rw[aA];exact h)
  iterate 40 (all_goals((conv=>whnf);first|(with_reducible first|refine hZ hkl ?_|refine hU hr ?_|refine hed _ ?_|refine Tj t _ zo ?_)|refine zG ?_|apply zA|intro h|exact zT|skip))
  ·exact⟨k+1,⟨by omega,iD hr ⟨edgeB_iff.1 zp,h⟩ hinv⟩,by omega,⟨[(0,0)],rfl,⟨rfl,rfl,trivial⟩,rfl,trivial⟩⟩
  ·exact iL hK (kE fun hn=>h (hn.edge k r hr).2)
  ·exact iL hK (kE fun hn=>by rw[uX (hn.edge k r hr).1]at h;cases h)
 have hedge:=iC hkl hinv;have hfl:=Li t.edges
 iterate 20 (all_goals((conv=>whnf);first|(with_reducible refine Vw t zo ?_)|refine zG ?_|apply zA|intro h|exact zT|skip))
 refine gM Nat (fun k=>⟨1,[(0,kU t)],[(1,.op 0 0),(6,.lst ((oK t.edges).map mT)),(7,.v (.int .i64 k))]⟩)
  (fun k=>k<=(oK t.edges).length/\∀(i:Nat) p,i<k->(oK t.edges)[i]? =some p->∀(j:Nat) q,j<i->(oK t.edges)[j]? =some q->p.meet q=false) (fun k=>(oK t.edges).length-k) 0 ?_ ?_ ?_
 ·exact⟨aO _,fun i y hi=>absurd hi (bC _)⟩
 ·exact⟨[(0,0)],rfl,⟨rfl,rfl,rfl,trivial⟩,rfl,trivial⟩
 intro k ⟨hk,hinv⟩;rcases aC k (oK t.edges).length with hkl|hkl
 ·obtain⟨r,hr⟩:∃r,(oK t.edges)[k]? =some r:=⟨_,aE hkl⟩
  have hlen:((oK t.edges).take k).length=k:=by simp;omega
  iterate 40 (all_goals((conv=>whnf);first|(with_reducible first|refine hZ hkl ?_|refine hU hr ?_|refine Hy zo ?_|refine Vx r _ zo ?_)|refine zG ?_|apply zA|intro h|exact zT|skip))
  ·refine iL hK (kE fun hn=>?_);obtain⟨q,hq1,hq2⟩:=dE.1 h;obtain⟨j,hj⟩:=bM.1 hq1;have hj2:=take_get.1 hj;rw[fixed_apart.2 hn.apart k r hr j q hj2.1 hj2.2]at hq2;cases hq2
  ·refine⟨k+1,⟨by omega,iD hr (fun j q h1 h2=>?_) hinv⟩,by omega,⟨[(0,0)],rfl,⟨rfl,rfl,rfl,trivial⟩,rfl,trivial⟩⟩;rw[fJ]at h;have:=h q (aI (take_get.2 ⟨h1,h2⟩));simpa using this
 have hfix:=fixed_apart.1 (iC hkl hinv)
 iterate 20 (all_goals((conv=>whnf);first|refine zG ?_|apply zA|intro h|exact zT|skip))
 refine gM Nat (fun k=>⟨1,[(0,kU t)],[(1,.op 0 0),(8,.v (.int .i64 k))]⟩)
  (fun k=>k<=t.pools.length/\∀(i:Nat) p,i<k->t.pools[i]? =some p->p.okP/\∀(j:Nat) q,j<i->t.pools[j]? =some q->p.meet q=false) (fun k=>t.pools.length-k) 0 ?_ ?_ ?_
 ·exact⟨aO _,fun i y hi=>absurd hi (bC _)⟩
 ·exact⟨[(0,0)],rfl,⟨rfl,rfl,trivial⟩,rfl,trivial⟩
 intro k ⟨hk,hinv⟩;rcases aC k t.pools.length with hkl|hkl
 ·obtain⟨r,hr⟩:=gex hkl;have hlen:(t.pools.take k).length=k:=by simp;omega
  iterate 40 (all_goals((conv=>whnf);first|(with_reducible first|refine hZ hkl ?_|refine hU hr ?_|refine Qk r ?_|refine Hy zo ?_|refine Vx r _ zo ?_)|refine zG ?_|apply zA|intro h|exact zT|skip))
  ·refine iL hK (kE fun hn=>?_);obtain⟨q,hq1,hq2⟩:=dE.1 h;obtain⟨j,hj⟩:=bM.1 hq1;have hj2:=take_get.1 hj;rw[(hn.pool k r hr).2 j q hj2.1 hj2.2]at hq2;cases hq2
  ·refine⟨k+1,⟨by omega,iD hr ⟨by assumption,fun j q h1 h2=>?_⟩ hinv⟩,by omega,⟨[(0,0)],rfl,⟨rfl,rfl,trivial⟩,rfl,trivial⟩⟩;rw[fJ]at h;have:=h q (aI (take_get.2 ⟨h1,h2⟩));simpa using this
  ·exact iL hK (kE fun hn=>h (hn.pool k r hr).1)
 have hpool:=iC hkl hinv
 iterate 20 (all_goals((conv=>whnf);first|refine zG ?_|apply zA|intro h|exact zT|skip))
 exact jU hK (Mt ⟨hdb'.1.1,hdb'.1.2,l1,e1,p1,t0,t1,hdb'.2,hlink,hedge,hfix,hpool⟩)
def aRY:Ctx:={N:=14}
abbrev aOj:=ofD aRY Tryz.func67
def Am:Sched:=ln [15,17,19,20,22]
def An:Sched:=ln [12,15,17,19,22]
def Bl:Sched:=.alt 6 Am (.alt 10 An Aa)
def Ak:Sched:=ln [8,15,17,19,22]
def Bk:Sched:=.alt 4 Am (.alt 10 Ak Aa)
def Bj:Sched:=.alt 4 An (.alt 6 Ak Aa)
def Bo:Sched:=lz [15,17] (.alt 0 (ln [5,7,19,20,22]) (.alt 10 (ln [0,5,7,19,22]) Aa))
def Ao:Sched:=ln [15,17,0,5,7,19,22]
def By:Sched:=.alt 0 (lz [5] (.wch 3 An)) (.alt 6 Ao Aa)
def Bn:Sched:=.alt 0 (ln [5,7,8,15,17,19,22]) (.alt 4 Ao Aa)
def Ca:Sched:=lz [1,5,7,11,15] (.wch 1 (.alt 4 (.alt 6 (ln [16,19,21,23,24,26,29,30]) (.alt 8 (ln [12,19,21,23,24,26,29,30]) Aa)) (.alt 6 (ln [8,16,19,21,23,24,26,29,30]) Aa)))
def Ay:Sched:=ln [22,25,27,30,33,34,36,39,40]
def Bv:Sched:=.alt 9 (ln [25,27,30,33,34,36,39,40]) (.alt 15 (ln [18,25,27,33,34,36,39,40]) Aa)
def B9:Sched:=.alt 9 Ay (.alt 11 Bv Aa)
def A3:Sched:=ln [16,22,25,27,30,33,34,36,39,40]
def Bz:Sched:=lz [25,27] (.alt 2 (ln [9,11,30,33,34,36,39,40]) (.alt 15 (ln [4,9,11,33,34,36,39,40]) Aa))
def Cb:Sched:=.alt 2 (lz [9] (.wch 5 Ay)) (.alt 11 Bz Aa)
def aRZ:Ctx:={N:=154,np:=1,own:=oz [11],plan:=p1 6 (lz [3,11] (.alt 0 (lz [5] (.wch 3 (.alt 4 Bl (.alt 6 Bk (.alt 10 Bj Aa))))) (.alt 4 (.alt 0 (lz [5] (.wch 3 Bl)) (.alt 6 Bo (.alt 10 By Aa))) (.alt 6 (.alt 0 (lz [5,7] Bk) (.alt 4 Bo (.alt 10 Bn Aa))) (.alt 10 (.alt 0 (lz [5] (.wch 3 Bj)) (.alt 4 By (.alt 6 Bn Aa))) Aa))))) (p1 11 Ca (p1 16 Ca (p1 21 (lz [1,7,13,15,21,29] (.wch 1 (.alt 2 (lz [9] (.wch 5 (.alt 8 B9 (.alt 9 A3 Aa)))) (.alt 8 (.alt 2 (lz [9] (.wch 5 B9)) (.alt 9 Cb (.alt 11 (.alt 2 (lz [9,11] Bv) (.alt 9 Bz (.alt 15 (.alt 2 (ln [9,11,18,25,27,33,34,36,39,40]) (.alt 9 (ln [25,27,4,9,11,33,34,36,39,40]) Aa)) Aa))) Aa))) (.alt 9 (.alt 2 (lz [9] (.wch 5 A3)) (.alt 8 Cb Aa)) Aa))))) pn))),hints:=h1 2 [.virtB 5 0 5,.virtB 5 1 3,.virtB 5 2 6,.virtB 5 3 2] hn,cut:=oz [7,17,20],res:=true}
abbrev aOk:=ofD aRZ Tryz.func24
end Go.Proofs.YtnomkooikbhgmaaGreatDoor
