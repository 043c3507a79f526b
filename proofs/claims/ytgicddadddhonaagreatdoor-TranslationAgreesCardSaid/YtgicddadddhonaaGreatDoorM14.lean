/- Lemmas. -/
import Derived.Test.YtgicddadddhonaaGreatDoorProg
import Derived.Test.YtgicddadddhonaaGreatDoorM13
set_option linter.unusedVariables false
set_option linter.unusedSimpArgs false
set_option maxRecDepth 100000
set_option maxHeartbeats 4000000
noncomputable section
namespace Go.Proofs.YtgicddadddhonaaGreatDoor
open Go Go.Vm
structure PSet (l:List Bx):Prop where
 len:l.length<=4096
 cn:Cn 5 l
theorem Ef:PSet []:=⟨aK _,Cn.nil 5⟩
theorem aVR(op:Bool->Bool->Bool){s b:List Bx}(h:PSet s)(hb:b.length<=20):(jH op 5 s b).length<=900000000000:=by
 have h1:=aAr op b.length 5 s b (aO _) h.cn (aO _);have h2:(2*b.length+3)^5<=43^5:=Nat.pow_le_pow_left zo 5;have h3:(s.length+1)*(2*b.length+3)^5<=4097*43^5:=fP (by have:=h.len;omega) h2;have h4:4097*43^5<=900000000000:=by decide
 omega
theorem aVS(op:Bool->Bool->Bool){s b:List Bx}(h:PSet s)(hb:PSet b):(jH op 5 s b).length<=900000000000:=by
 have h1:=aAs op 5 s b (aO _) h.cn hb.cn;have h3:6^5*((s.length+1)*(b.length+1))<=6^5*(4097*4097):=dV _ (fP (by have:=h.len;omega) (by have:=hb.len;omega));have h4:6^5*(4097*4097)<=900000000000:=by decide
 omega
theorem aEV{l:List Bx}(h:(kL l).length=l.length):∀x,x∈l->x.ok:=by
 have:=List.length_filter_eq_length_iff.1 h;intro x hx;simpa using this x hx
theorem ok_get{x:Bx}(h:x.ok):∀f,f<=4->(x.get f).lo<=(x.get f).hi/\(x.get f).hi<=iX f:=by
 obtain⟨h0,h1,h2,h3,h4⟩:=h;intro f hf;rcases f with _|_|_|_|_|f
 all_goals first|assumption|omega
theorem F7{l:List Bx}(h:jW l=true):jH orB 5 l []=l:=by
 unfold jW at h;simp only[aJ,aL]at h;obtain⟨h1,h2,h3⟩:=h;have hv:=aEV h2;have:=(tU 5 l (aO _) (fun x hx f hf _=>ok_get (hv x hx) f hf) zo).1 h3;rw[this];exact(eF fun x _=>rC x).trans (List.map_id _)
theorem kU{l:List Bx}(h:jW l=true):PSet l:=by
 refine⟨?_,?_⟩
 ·unfold jW at h;simp only[aJ,aL]at h;exact h.1
 ·rw[<-F7 h];exact Nq orB 5 l [] (aO _)
theorem E7{op:Bool->Bool->Bool}{a b:List Bx}(h:(jH op 5 a b).length<=4096):PSet (jH op 5 a b):=⟨h,Nq op 5 a b (aO _)⟩
theorem wP:∀(l s:List Bx),PSet s->PSet (kO s l).1
 |[],s,h=>h
 |b::l,s,h=>by
  rw[kO];split
  ·split
   ·exact Ef
   ·exact wP l _ (E7 (by unfold rI at*;omega))
  ·exact wP l s h
theorem Ui(l:List Bx):PSet (kX l).1:=wP l [] Ef
theorem limE_ne{l:List Bx}:pM l≠0↔4096<l.length:=by
 unfold pM;split
 ·simp;omega
 ·simp;omega
theorem cr4Make(l:List Bx)(hl:l.length<1000000000){K:KT}(hK:K (.tup [iN (kX l).1,.v (.int .i64 (kX l).2)]) []):AC 98 [iN l] [] K:=by
 refine hJ (aDE rfl rfl ?_);(repeat' ((conv=>whnf);first|refine zG ?_|apply zA|intro h|exact zT));all_goals conv=>whnf
 refine gV (Nat×List Bx) (fun g=>⟨0,[],[(0,iN l),(4,iN g.2),(5,.v (.int .i64 g.1))]⟩) (fun g=>g.1<=l.length/\PSet g.2/\kX l=kO g.2 (l.drop g.1)) (fun g=>l.length-g.1) (0,[]) ⟨aK _,Ef,by rw[bP];rfl⟩ ?_ ?_
 ·exact leA
 rintro⟨i,s⟩ ⟨hi,hs,hm⟩
 simp only at hi hs hm⊢;rcases aD i l.length with hil|hil
 ·obtain⟨x,hx⟩:=gex hil;have hd:l.drop i=x::l.drop (i+1):=by
   rw[aE hil]at hx;rw[<-bB hx,<-bA hil]
  rw[hd,kO]at hm;have hsl:∀{K:List AV->Prop},K ([x].map iV)->Sl (l.map iV) i (i+1-i) K:=fun {K} h=>by
   refine mQ zo ?_;rw[fN,hd];exact h
  have hadd:∀{K:KT},K (iN (rI s x)) []->AC 154 [iN s,iN [x],.v (.int .i64 0),.v (.int .i64 0)] [] K:=fun h=>Dj 0 5 (aO _) s [x] (by have:=hs.len;simp only[aB,aI];omega) (aVR _ hs zx) (by rw[opI_0];exact h);(repeat' ((conv=>whnf);first|(with_reducible first|refine iI hil ?_|refine iH hx ?_|refine cr3Val x ?_|refine iF i (i+1) rfl zo zo (by rw[aA];omega) ?_|refine hsl ?_|refine hadd ?_|refine aAV (rI s x) ?_)|refine zG ?_|apply zA|intro h|exact zT));all_goals conv=>whnf
  ·rename_i hb;have he:=h;have hlen:¬4096<(rI s x).length:=fun h=>limE_ne.2 h he;rw[aH hb,aF hlen]at hm;refine⟨(i+1,rI s x),⟨hil,E7 (by unfold rI at hlen;omega),hm⟩,by omega,?_⟩;rw[show nZ (rI s x)=rI s x from by unfold nZ;rw[aF hlen]];dsimp only;rw[aN,aM];exact leA
  ·rename_i hb;have hne:=h;rw[aH hb,aH (limE_ne.1 hne)]at hm;rw[hm]at hK;have h3:pM (rI s x)=3:=by
    unfold pM at hne⊢;split<;>simp_all
   rw[h3];exact⟨_,hU hZ gY,hK⟩
  ·have hb:=h;rw[aF hb]at hm;refine⟨(i+1,s),⟨hil,hs,hm⟩,by dsimp only;omega,?_⟩;dsimp only;rw[aN,aM];exact leA
 ·rw[bO hil,kO]at hm;rw[hm]at hK;(repeat' ((conv=>whnf);first|refine zG ?_|apply zA|intro h|exact zT));all_goals conv=>whnf
  exact⟨_,gY,hK⟩
def jK(l:List Bx):List Bx×Int:=if jW l then(l,0)else kX l
theorem pD(l:List Bx):PSet (jK l).1:=by
 unfold jK;split
 ·exact kU zp
 ·exact Ui l
theorem aAU(l:List Bx)(hl:l.length<1000000000){K:KT}(hK:K (.tup [iN (jK l).1,.v (.int .i64 (jK l).2)]) []):AC 278 [iN l] [] K:=by
 refine hJ (aIx rfl rfl ?_);unfold jK at hK;(repeat' ((conv=>whnf);first|(with_reducible first|refine aFp l hl ?_|refine cr4Make l hl ?_)|refine zG ?_|apply zA|intro h|exact zT));all_goals conv=>whnf
 all_goals simp_all
 all_goals exact⟨_,gY,hK⟩
def iP(op:Bool->Bool->Bool)(a b:List Bx):List Bx×Int:=
 if(jK a).2≠0 then([],(jK a).2)else if(jK b).2≠0 then([],(jK b).2)else(nZ (jH op 5 (jK a).1 (jK b).1),pM (jH op 5 (jK a).1 (jK b).1))
theorem N1(c:Int)(a b:List Bx)(ha:a.length<1000000000)(hb:b.length<1000000000){K:KT}(hK:K (.tup [iN (iP (opI c) a b).1,.v (.int .i64 (iP (opI c) a b).2)]) []):AC 238 [iN a,iN b,.v (.int .i64 c)] [] K:=by
 refine hJ (aDB rfl rfl ?_);unfold iP at hK;have hr:∀{K:KT},K (iN (jH (opI c) 5 (jK a).1 (jK b).1)) []->AC 154 [iN (jK a).1,iN (jK b).1,.v (.int .i64 c),.v (.int .i64 0)] [] K:=fun h=>Dj c 5 (aO _) _ _ (by have:=(pD a).len;have:=(pD b).len;omega) (aVS _ (pD a) (pD b)) h;(repeat' ((conv=>whnf);first|(with_reducible first|refine aAU a ha ?_|refine aAU b hb ?_|refine hr ?_|refine aAV _ ?_)|refine zG ?_|apply zA|intro h|exact zT));all_goals conv=>whnf
 all_goals simp_all
 all_goals first|exact⟨_,gY,hK⟩|exact⟨_,hU hZ gY,hK⟩
theorem cr4Canon(l:List Bx)(hl:l.length<50000)(hr:(jH orB 5 (kL l) []).length<=900000000000){K:KT}(hK:K (iN (jH orB 5 (kL l) [])) []):AC 89 [iN l] [] K:=by
 refine hJ (Zn rfl rfl ?_);have hq:∀{K:KT},K (iN (jH orB 5 (kL l) [])) []->AC 154 [iN (kL l),.lst [],.v (.int .i64 0),.v (.int .i64 0)] [] K:=fun h=>Dj 0 5 (aO _) _ [] (by have:=Ez l;simp only[aI];omega) (by rw[opI_0];exact hr) (by rw[opI_0];exact h);(repeat' ((conv=>whnf);first|(with_reducible first|refine aAW l zo ?_|refine hq ?_)|refine zG ?_|apply zA|intro h|exact zT));all_goals conv=>whnf
 exact⟨_,gY,hK⟩
def endsB(f:Nat)(l:List Bx):List Int:=l.flatMap fun x=>[(x.get f).lo,(x.get f).hi+1]
theorem endsB_mem{f:Nat}{l:List Bx}{z:Int}:z∈endsB f l↔∃x,x∈l/\(z=(x.get f).lo\/z=(x.get f).hi+1):=by
 simp[endsB]
theorem Kk{st:List Int}{z:Int}(h:(st++[z]).Pairwise (· < ·)):∀x,x∈st->x<z:=fun x hx=>(dN.1 h).2.2 x hx z zx
theorem aFx{f:Nat}{a b:List Bx}(hab:∀x,x∈a\/x∈b->(x.get f).lo<=(x.get f).hi/\(x.get f).hi<=iX f){st':List Int}(hs:st'.Pairwise (· < ·))(hm:∀z,z∈st'↔z=0\/z=iX f+1\/z∈endsB f a\/z∈endsB f b):
  ∃st,st'=st++[iX f+1]/\Cuts (iX f) (lO f a b) st:=by
 have ht:=kF f;have hends:∀z,z∈endsB f a\/z∈endsB f b->0<=z/\z<=iX f+1:=by
  intro z hz;have:∃x,(x∈a\/x∈b)/\(z=(x.get f).lo\/z=(x.get f).hi+1):=by
   rcases hz with hz|hz
   ·obtain⟨x,h1,h2⟩:=endsB_mem.1 hz;exact⟨x,.inl h1,h2⟩
   ·obtain⟨x,h1,h2⟩:=endsB_mem.1 hz;exact⟨x,.inr h1,h2⟩
  obtain⟨x,h1,h2⟩:=this;have:=hab x h1;have:=(x.get f).l0;omega
 have hb:∀z,z∈st'->0<=z/\z<=iX f+1:=by
  intro z hz;rcases(hm z).1 hz with h|h|h
  ·omega
  ·omega
  ·exact hends z h
 have htop:iX f+1∈st':=(hm _).2 (.inr (.inl rfl));have hzero:(0:Int)∈st':=(hm _).2 (.inl rfl);rcases dI st' with hn|⟨st,z,hc⟩
 ·rw[hn]at htop;cases htop
 rw[dJ]at hc;subst hc;have hlt:=Kk hs;have hz:z=iX f+1:=by
  rcases aX.1 htop with h|h
  ·have:=hlt _ h;have:=hb z zx;omega
  ·simp at h;exact h.symm
 subst hz;have hin:∀z,z∈st++[iX f+1]->z<=iX f->z∈st:=by
  intro z hz hle;rcases aX.1 hz with h|h
  ·exact h
  ·simp at h;omega
 refine⟨st,rfl,?_,?_,?_,?_⟩
 ·exact(dN.1 hs).1
 ·intro x hx;have:=hlt x hx;have:=hb x (aX.2 (.inl hx));omega
 ·have h0:=hin 0 hzero ht.1;cases st with
  |nil=>cases h0
  |cons y r=>
   refine⟨r,?_⟩;have hp:=(dN.1 hs).1;rcases aZ.1 h0 with h|h
   ·rw[h]
   ·have:=(cG.1 hp).1 0 h;have:=hb y zx;omega
 ·intro r hr hle;have:∃x,(x∈a\/x∈b)/\r=x.get f:=by
   rw[lO]at hr;rcases aX.1 hr with h|h
   ·obtain⟨x,h1,rfl⟩:=bQ.1 h;exact⟨x,.inl h1,rfl⟩
   ·obtain⟨x,h1,rfl⟩:=bQ.1 h;exact⟨x,.inr h1,rfl⟩
  obtain⟨x,hx,rfl⟩:=this;have e1:(x.get f).lo∈st++[iX f+1]:=(hm _).2 (.inr (.inr (hx.imp (fun h=>endsB_mem.2 ⟨x,h,.inl rfl⟩) (fun h=>endsB_mem.2 ⟨x,h,.inl rfl⟩))));have e2:(x.get f).hi+1∈st++[iX f+1]:=(hm _).2 (.inr (.inr (hx.imp (fun h=>endsB_mem.2 ⟨x,h,.inr rfl⟩) (fun h=>endsB_mem.2 ⟨x,h,.inr rfl⟩))));exact⟨fun h=>hin _ e1 h,fun h=>hin _ e2 h⟩
theorem U4{top:Int}{st:List Int}{i:Nat}(h:i<st.length):(st++[top+1])[i+1]? =some (pW top st i+1):=by
 unfold pW;rcases aD (i+1) st.length with h1|h1
 ·rw[bJ h1,aE h1];simp
 ·rw[bF h1,bS h1,show i+1-st.length=0 by omega];rfl
def InP(p:Nat->Int):Prop:=∀f,0<=p f/\p f<=iX f
theorem Jp:InP fun _=>0:=fun f=>⟨cC _,(kF f).1⟩
theorem GInv.congr{β:Type}{R R':Int->List β}{l:List (Grp (List β))}{e:Int}(h:GInv R l e)(hR:∀v,0<=v->v<e->R v=R' v):GInv R' l e:=
 ⟨h.wf,fun v=>by
  rw[h.at_];by_cases hv:0<=v/\v<e
  ·rw[aH hv,aH hv,lab,lab,hR v hv.1 hv.2]
  ·rw[aF hv,aF hv],h.low,h.full⟩
theorem uG{p q:Nat->Int}:∀(k:Nat) (b:Bx),k<=5->(∀f,f<=4->5<=f+k->p f=q f)->inK p k b=inK q k b
 |0,b,_,_=>rfl
 |k+1,b,hk,h=>by
  rw[inK,inK,h (4-k) zo zo,uG k b zo fun f hf h5=>h f hf zo]
theorem oA{p q:Nat->Int}{k:Nat}{l:List Bx}(hk:k<=5)(h:∀f,f<=4->5<=f+k->p f=q f):jB p k l=jB q k l:=by
 rw[jB,jB]
 induction l with
 |nil=>rfl
 |cons b l ih=>rw[fA,fA,ih,uG k b hk h]
theorem Qh(op:Bool->Bool->Bool):∀(k:Nat) (a b a' b':List Bx),k<=5->(∀p,InP p->jB p k a=jB p k a')->(∀p,InP p->jB p k b=jB p k b')->jH op k a b=jH op k a' b'
 |0,a,b,a',b',_,ha,hb=>by
  have h1:=ha _ Jp;have h2:=hb _ Jp;rw[oL,oL]at h1 h2;rw[jH,jH,h1,h2]
 |k+1,a,b,a',b',hk,ha,hb=>by
  have g:=mU op k a b (mA _ (kF (4-k)).1);have g':=mU op k a' b' (mA _ (kF (4-k)).1);have part:∀(c c':List Bx),(∀p,InP p->jB p (k+1) c=jB p (k+1) c')->∀v,0<=v->v<iX (4-k)+1->∀p,InP p->jB p k (atF (4-k) v c)=jB p k (atF (4-k) v c'):=by
   intro c c' hc v v0 v1 p hp;have hq:InP (fun f=>if f=4-k then v else p f):=fun f=>by
    by_cases e:f=4-k
    ·simp only[e,if_true];omega
    ·simp only[e,if_false];exact hp f
   have h:=hc _ hq;rw[pE,pE,aH rfl]at h;rw[oA (q:=fun f=>if f=4-k then v else p f) zo (fun f hf h5=>by rw[aF zo]),h];exact oA zo fun f hf h5=>by rw[aF zo]
  have hR:∀v,0<=v->v<iX (4-k)+1->iY op k a b v=iY op k a' b' v:=fun v v0 v1=>
   Qh op k _ _ _ _ zo (part a a' ha v v0 v1) (part b b' hb v v0 v1)
  rw[kT,kT,(g.congr hR).same g']
theorem inK_iff{p:Nat->Int}{b:Bx}:inK p 5 b=true↔∀f,f<=4->(b.get f).lo<=p f/\p f<=(b.get f).hi:=by
 simp only[inK,aJ,aL,and_true];constructor
 ·rintro h f hf
  obtain rfl|rfl|rfl|rfl|rfl:f=0\/f=1\/f=2\/f=3\/f=4:=by omega
  all_goals simp_all
 ·intro h;have h0:=h 0 zo;have h1:=h 1 zo;have h2:=h 2 zo;have h3:=h 3 zo;have h4:=h 4 zo;simp_all
theorem memK_iff{p:Nat->Int}{l:List Bx}:jB p 5 l=true↔∃b,b∈l/\inK p 5 b=true:=by rw[jB,bR]
theorem Om{p:Nat->Int}(h:∀f,f<=4->0<=p f/\p f<=iX f):∃q,InP q/\∀f,f<=4->q f=p f:=by
 refine⟨fun f=>if f<=4 then p f else 0,fun f=>?_,fun f hf=>by simp only[hf,if_true]⟩;by_cases hf:f<=4
 ·simp only[hf,if_true];exact h f hf
 ·simp only[hf,if_false];exact⟨cC _,(kF f).1⟩
theorem E5{b:Bx}(h:∀f,f<=4->(b.get f).lo<=(b.get f).hi/\(b.get f).hi<=iX f):∃p,InP p/\inK p 5 b=true:=by
 obtain⟨q,hq,he⟩:=Om (p:=fun f=>(b.get f).lo) fun f hf=>⟨(b.get f).l0,by have:=h f hf;omega⟩
 refine⟨q,hq,?_⟩;rw[inK_iff];intro f hf;rw[he f hf];exact⟨cC _,(h f hf).1⟩
theorem Nu(op:Bool->Bool->Bool)(a b:List Bx):jH op 5 a b=[]↔∀p,InP p->op (jB p 5 a) (jB p 5 b)=false:=by
 constructor
 ·intro h p hp;rw[<-pH op hp 5 a b (aO _),h];rfl
 ·intro h;cases hc:jH op 5 a b with
  |nil=>rfl
  |cons x l=>
   exfalso;have hx:=D7 (aO 5) (Hs op 5 a b (aO _) x (by rw[hc];simp));obtain⟨p,hp,hi⟩:=E5 (b:=x) fun f hf=>by have:=hx f hf;rw[aH zo]at this;exact this
   have:=pH op hp 5 a b (aO _);rw[h p hp,hc,jB,fA,hi]at this;cases this
def woB(x y:Bool):Bool:=x&& !y
def anB(x y:Bool):Bool:=x&&y
theorem opI_1:opI 1=anB:=by funext x y;rfl
theorem opI_2:opI 2=woB:=by funext x y;rfl
theorem cr4Int(a b:List Bx)(ha:a.length<1000000000)(hb:b.length<1000000000){K:KT}(hK:K (.tup [iN (iP anB a b).1,.v (.int .i64 (iP anB a b).2)]) []):AC 210 [iN a,iN b] [] K:=by
 have hc:∀{K:KT},K (.tup [iN (iP anB a b).1,.v (.int .i64 (iP anB a b).2)]) []->AC 238 [iN a,iN b,.v (.int .i64 1)] [] K:=fun h=>N1 1 a b ha hb (by rw[opI_1];exact h);refine aIy rfl rfl ?_;(repeat' ((conv=>whnf);first|(with_reducible refine hc ?_)|refine zG ?_|apply zA|intro h|exact zT));all_goals conv=>whnf
 exact hK
theorem cr4Un(a b:List Bx)(ha:a.length<1000000000)(hb:b.length<1000000000){K:KT}(hK:K (.tup [iN (iP orB a b).1,.v (.int .i64 (iP orB a b).2)]) []):AC 207 [iN a,iN b] [] K:=by
 have hc:∀{K:KT},K (.tup [iN (iP orB a b).1,.v (.int .i64 (iP orB a b).2)]) []->AC 238 [iN a,iN b,.v (.int .i64 0)] [] K:=fun h=>N1 0 a b ha hb (by rw[opI_0];exact h);refine aQe rfl rfl ?_;(repeat' ((conv=>whnf);first|(with_reducible refine hc ?_)|refine zG ?_|apply zA|intro h|exact zT));all_goals conv=>whnf
 exact hK
theorem cr4Sub(a b:List Bx)(ha:a.length<1000000000)(hb:b.length<1000000000){K:KT}(hK:K (.tup [iN (iP woB a b).1,.v (.int .i64 (iP woB a b).2)]) []):AC 163 [iN a,iN b] [] K:=by
 have hc:∀{K:KT},K (.tup [iN (iP woB a b).1,.v (.int .i64 (iP woB a b).2)]) []->AC 238 [iN a,iN b,.v (.int .i64 2)] [] K:=fun h=>N1 2 a b ha hb (by rw[opI_2];exact h);refine aIB rfl rfl ?_;(repeat' ((conv=>whnf);first|(with_reducible refine hc ?_)|refine zG ?_|apply zA|intro h|exact zT));all_goals conv=>whnf
 exact hK
theorem cr4Same(a b:List Bx)(ha:a.length<1000000000000)(hb:b.length<1000000000000){K:KT}(hK:K (.sb (decide (a=b))) []):AC 97 [iN a,iN b] [] K:=by
 refine aDG rfl rfl ?_;(repeat' ((conv=>whnf);first|(with_reducible refine Vx a b ha hb ?_)|refine zG ?_|apply zA|intro h|exact zT));all_goals conv=>whnf
 exact hK
def fb(p0 p1 s0 s1 d0 d1:Int):Bx:=⟨mkR 0 4294967295,mkR 0 4294967295,mkR p0 p1,mkR s0 s1,mkR d0 d1⟩
def aCv:List Bx:=[fb 0 0 0 0 0 0,fb 2 5 0 0 0 0,fb 7 16 0 0 0 0,fb 18 255 0 0 0 0,fb 6 6 0 65535 0 65535,fb 17 17 0 65535 0 65535,fb 1 1 0 7 8 8,fb 1 1 9 65535 8 8]
def initS:List Bx:=[fb 0 0 0 0 0 0,fb 1 1 0 7 8 8,fb 1 1 9 65535 8 8,fb 2 5 0 0 0 0,fb 6 6 0 65535 0 65535,fb 7 16 0 0 0 0,fb 17 17 0 65535 0 65535,fb 18 255 0 0 0 0]
theorem Jq:jH orB 5 (kL aCv) []=initS:=by decide+kernel
theorem N2{K:KT}(hK:K (iN initS) []):AC 32 [] [] K:=by
 have hc:∀{K:KT},K (iN initS) []->AC 89 [iN aCv] [] K:=fun h=>cr4Canon aCv zd (by rw[Jq];decide) (by rw[Jq];exact h);refine aDD rfl rfl ?_;(repeat' ((conv=>whnf);first|(with_reducible refine Lp.times 6 ?_)|(refine kH zd ?_)|(refine iC rfl ?_)|(with_reducible refine cr3Full ?_)|(refine hc ?_)|refine zG ?_|apply zA|intro h|exact zT));all_goals conv=>whnf
 exact hK
def okL(l:List Bx):Prop:=∀x,x∈l->∀f,f<=4->(x.get f).lo<=(x.get f).hi/\(x.get f).hi<=iX f
theorem aEi{f:Nat}{v:Int}{l:List Bx}(h:okL l):okL (atF f v l):=fun x hx=>h x (cR.1 hx).1
theorem H2:okL []:=fun x hx=>by simp at hx
theorem D8(op:Bool->Bool->Bool)(a b:List Bx):okL (jH op 5 a b):=fun x hx f hf=>by
 have:=D7 (aO 5) (Hs op 5 a b (aO _) x hx) f hf;rw[aH zo]at this;exact this
theorem rR{l:List Bx}(h:jW l=true):okL l:=by
 rw[<-F7 h];exact D8 orB l []
theorem zH:∀(l s:List Bx),okL s->okL (kO s l).1
 |[],s,h=>h
 |b::l,s,h=>by
  rw[kO];split
  ·split
   ·exact H2
   ·exact zH l _ (D8 _ _ _)
  ·exact zH l s h
theorem O2(l:List Bx):okL (jK l).1:=by
 unfold jK;split
 ·exact rR zp
 ·exact zH l [] H2
def aOc:Ctx:={N:=14,plan:=p1 1 (ln [1,2,5,7,13,15,17,8,11,19,21,23]) pn}
abbrev aIZ:=ofD aOc Tryz.func80
def aWv:Ctx:={N:=31}
abbrev aVE:=ofD aWv Tryz.func21
def aNj:Ctx:={N:=24,res:=true}
abbrev aIj:=ofD aNj Tryz.func71
def aNg:Ctx:={N:=40,np:=1,own:=oz [14],plan:=p1 5 (lz [1,5,9,15,21,29] (.wch 1 (.wch 3 (.wch 5 (lz [13] (.wch 8 (lz [19] (.wch 11 (lz [25] (.alt 13 (ln [30,33,35,37]) (.alt 15 (ln [26,33,35,37]) Ab))))))))))) pn}
abbrev aIg:=ofD aNg Tryz.func33
def aNY:Ctx:={N:=11}
abbrev aIV:=ofD aNY Tryz.func109
def aNX:Ctx:={N:=5}
abbrev aIU:=ofD aNX Tryz.func175
def aBG:Ctx:={N:=9}
abbrev Zb:=ofD aBG Tryz.func174
def sEq(a b:ByteArray):Bool:=a.toList==b.toList
def Dl(l:List Dv)(n:ByteArray):Int:=jM (fun d=>sEq d.name n) l
def jX(l:List Ed)(n:ByteArray):Int:=jM (fun d=>sEq d.name n) l
theorem aLR(d:Dv)(n:ByteArray){K:KT}(hK:K (.sb (sEq d.name n)) []):AC 282 [pY d,.fp [.v (.string n)]] [] K:=by
 refine aIW rfl rfl ?_
 iterate 9 (all_goals((conv=>whnf);first|refine zG ?_|apply zA|intro h|exact zT|skip))
 exact hK
theorem aSn(t:Tp)(n:ByteArray)(hl:t.devs.length<1000000){K:KT}(hK:K (.v (.int .i64 (Dl t.devs n))) []):AC 244 [jT t,.v (.string n)] [] K:=by
 refine aQv rfl rfl ?_
 iterate 9 (all_goals((conv=>whnf);first|(with_reducible refine aAJ _ _ _ (fun d=>sEq d.name n) (fun x K h=>aLR x n h) hl ?_)|refine zG ?_|apply zA|intro h|exact zT|skip))
 exact hK
theorem aSp(t:Tp)(n:ByteArray)(hl:t.devs.length<1000000){K:KT}(hK:K (.v (.int .i64 (Dl t.devs n))) []):AC 270 [jT t,.v (.string n)] [] K:=by
 refine aQy rfl rfl ?_
 iterate 4 (all_goals((conv=>whnf);first|refine zG ?_|apply zA|intro h|exact zT|skip))
 refine gV Nat (fun k=>⟨1,[(0,.box [.lst (t.devs.map pY),.lst (t.links.map Dn),.lst (t.edges.map lY),.lst (t.pools.map lN),.v (.int .i64 t.tol)])],[(1,.v (.string n)),(2,.op 0 0),(5,.v (.int .i64 k))]⟩) (fun k=>k<=t.devs.length/\∀(i:Nat) y,i<k->t.devs[i]? =some y->sEq y.name n=false) (fun k=>t.devs.length-k) 0 ?_ ?_ ?_
 ·exact⟨aK _,fun i y hi=>absurd hi (bD _)⟩
 ·exact⟨[(0,0)],rfl,⟨rfl,rfl,rfl,trivial⟩,rfl,trivial⟩
 ·intro k ⟨hk,hinv⟩;rcases aD k t.devs.length with hkl|hkl
  ·obtain⟨r,hr⟩:=gex hkl
   iterate 14 (all_goals((conv=>whnf);first|(with_reducible first|refine iI hkl ?_|refine iH hr ?_)|refine zG ?_|apply zA|intro h|exact zT|skip))
   ·rw[Dl,jN hr h hinv]at hK;exact hK
   ·exact⟨k+1,⟨by omega,jJ hr h hinv⟩,by omega,⟨[(0,0)],rfl,⟨rfl,rfl,rfl,trivial⟩,rfl,trivial⟩⟩
  ·iterate 8 (all_goals((conv=>whnf);first|refine zG ?_|apply zA|intro h|exact zT|skip))
   rw[Dl,jS (iL hkl hinv)]at hK;exact hK
theorem aFw(d:Ed)(n:ByteArray){K:KT}(hK:K (.sb (sEq d.name n)) []):AC 200 [lY d,.fp [.v (.string n)]] [] K:=by
 refine aDU rfl rfl ?_
 iterate 9 (all_goals((conv=>whnf);first|refine zG ?_|apply zA|intro h|exact zT|skip))
 exact hK
theorem N7(t:Tp)(n:ByteArray)(hl:t.edges.length<1000000){K:KT}(hK:K (.v (.int .i64 (jX t.edges n))) []):AC 115 [jT t,.v (.string n)] [] K:=by
 refine aIX rfl rfl ?_
 iterate 9 (all_goals((conv=>whnf);first|(with_reducible refine Vv _ _ _ (fun d=>sEq d.name n) (fun x K h=>aFw x n h) hl ?_)|refine zG ?_|apply zA|intro h|exact zT|skip))
 exact hK
theorem vY(t:Tp)(n:ByteArray)(hl:t.edges.length<1000000){K:KT}(hK:K (.v (.int .i64 (jX t.edges n))) []):AC 20 [jT t,.v (.string n)] [] K:=by
 refine aJb rfl rfl ?_
 iterate 4 (all_goals((conv=>whnf);first|refine zG ?_|apply zA|intro h|exact zT|skip))
 refine gV Nat (fun k=>⟨1,[(0,.box [.lst (t.devs.map pY),.lst (t.links.map Dn),.lst (t.edges.map lY),.lst (t.pools.map lN),.v (.int .i64 t.tol)])],[(1,.v (.string n)),(2,.op 0 0),(5,.v (.int .i64 k))]⟩) (fun k=>k<=t.edges.length/\∀(i:Nat) y,i<k->t.edges[i]? =some y->sEq y.name n=false) (fun k=>t.edges.length-k) 0 ?_ ?_ ?_
 ·exact⟨aK _,fun i y hi=>absurd hi (bD _)⟩
 ·exact⟨[(0,0)],rfl,⟨rfl,rfl,rfl,trivial⟩,rfl,trivial⟩
 ·intro k ⟨hk,hinv⟩;rcases aD k t.edges.length with hkl|hkl
  ·obtain⟨r,hr⟩:=gex hkl
   iterate 14 (all_goals((conv=>whnf);first|(with_reducible first|refine iI hkl ?_|refine iH hr ?_)|refine zG ?_|apply zA|intro h|exact zT|skip))
   ·rw[jX,jN hr h hinv]at hK;exact hK
   ·exact⟨k+1,⟨by omega,jJ hr h hinv⟩,by omega,⟨[(0,0)],rfl,⟨rfl,rfl,rfl,trivial⟩,rfl,trivial⟩⟩
  ·iterate 8 (all_goals((conv=>whnf);first|refine zG ?_|apply zA|intro h|exact zT|skip))
   rw[jX,jS (iL hkl hinv)]at hK;exact hK
def Gm(d:Dv):Prop:=qF d.name/\0<=d.cap/\d.cap<=4096/\(sEq d.cls ⟨#[]⟩=true\/qF d.cls)
open Classical in
def Tj(d:Dv):Bool:=decide (Gm d)
theorem Lv{d:Dv}(h:Gm d):Tj d=true:=by simp[Tj,h]
theorem Tk{d:Dv}(h:¬Gm d):Tj d=false:=by simp[Tj,h]
theorem devB_iff{d:Dv}:Tj d=true↔Gm d:=by simp[Tj]
theorem qD{s:ByteArray}(h:nameB s=false):¬qF s:=fun hn=>by rw[oX hn]at h;cases h
theorem aFv(d:Dv){K:KT}(hK:K (.sb (Tj d)) []):AC 243 [pY d] [] K:=by
 refine gZ (aDT rfl rfl ?_)
 iterate 30 (all_goals((conv=>whnf);first|(with_reducible refine vX _ ?_)|refine zG ?_|apply zA|intro h|exact zT|skip))
 all_goals first
  |(refine kE hK (Lv ⟨nameB_iff.1 zp,by omega,by omega,?_⟩);exact .inl zp)
  |(refine kB hK ?_
    rw[bK,devB_iff,nameB_iff];refine⟨fun hh=>hh.2.2.2.resolve_left (by rw[sEq,h];simp),fun hh=>⟨nameB_iff.1 zp,by omega,by omega,.inr hh⟩⟩)
  |(refine iU hK (Tk fun hn=>?_)
    obtain⟨n1,n2,n3,n4⟩:=hn
    first|omega|exact qD zp n1)
def edgeOk(n:Int)(e:Ed):Prop:=qF e.name/\qF e.zone/\0<=e.dev/\e.dev<n/\1<=e.pf.bits/\e.pf.okP/\(e.pl=false\/e.pf.addr=0)
open Classical in
def Dm(n:Int)(e:Ed):Bool:=decide (edgeOk n e)
theorem uO{n:Int}{e:Ed}(h:edgeOk n e):Dm n e=true:=by simp[Dm,h]
theorem Gn{n:Int}{e:Ed}(h:¬edgeOk n e):Dm n e=false:=by simp[Dm,h]
theorem aKU{e:Ed}(h:e.pl=true):¬e.pl=false:=by simp[h]
theorem edgeB_iff{n:Int}{e:Ed}:Dm n e=true↔edgeOk n e:=by simp[Dm]
theorem aBb(t:Tp)(e:Ed){K:KT}(hK:K (.sb (Dm t.devs.length e)) []):AC 245 [jT t,lY e] [] K:=by
 refine gZ (Zr rfl rfl ?_)
 iterate 50 (all_goals((conv=>whnf);first|(with_reducible first|refine vX _ ?_|refine Iq e.pf ?_)|refine zG ?_|apply zA|intro h|exact zT|skip))
 all_goals(try simp only[aA]at*)
 all_goals first
  |(refine kE hK (uO ⟨nameB_iff.1 zp,nameB_iff.1 zp,by omega,by omega,by omega,by assumption,.inl zp⟩))
  |(refine kB hK ?_
    rw[bK,edgeB_iff,aL];refine⟨fun hh=>hh.2.2.2.2.2.2.resolve_left (aKU zp),fun hh=>⟨nameB_iff.1 zp,nameB_iff.1 zp,by omega,by omega,by omega,by assumption,.inr hh⟩⟩)
  |(refine iU hK (Gn fun hn=>?_)
    obtain⟨n1,n2,n3,n4,n5,n6,n7⟩:=hn
    first|omega|(exact absurd n6 zp)|exact qD zp n1|exact qD zp n2)
theorem aBd(e:Ed)(n:Int){K:KT}(hK:K (.sb (Dm n e)) []):AC 219 [lY e,.v (.int .i64 n)] [] K:=by
 refine gZ (Zs rfl rfl ?_)
 iterate 50 (all_goals((conv=>whnf);first|(with_reducible first|refine vW _ ?_|refine Qo e.pf ?_)|refine zG ?_|apply zA|intro h|exact zT|skip))
 all_goals(try simp only[aA]at*)
 all_goals first
  |(refine kE hK (uO ⟨nameB_iff.1 zp,nameB_iff.1 zp,by omega,by omega,by omega,by assumption,.inl zp⟩))
  |(refine kB hK ?_
    rw[bK,edgeB_iff,aL];refine⟨fun hh=>hh.2.2.2.2.2.2.resolve_left (aKU zp),fun hh=>⟨nameB_iff.1 zp,nameB_iff.1 zp,by omega,by omega,by omega,by assumption,.inr hh⟩⟩)
  |(refine iU hK (Gn fun hn=>?_)
    obtain⟨n1,n2,n3,n4,n5,n6,n7⟩:=hn
    first|omega|(exact absurd n6 zp)|exact qD zp n1|exact qD zp n2)
def Jy(n:Int)(l:Lk):Prop:=0<=l.a/\l.a<l.b/\l.b<n/\1<=l.cost/\l.cost<=1000
def H9(e o:Ed):Prop:=¬(e.pl=false/\o.pl=false/\e.pf.meet o.pf=true)
theorem take_get{α:Type}{l:List α}{k j:Nat}{o:α}:(l.take k)[j]? =some o↔(j<k/\l[j]? =some o):=by
 rw[cZ];split
 ·rename_i h;exact⟨fun h1=>⟨h,h1⟩,fun h1=>h1.2⟩
 ·rename_i h;refine⟨fun h1=>?_,fun h1=>absurd h1.1 h⟩;cases h1
structure TopOk (t:Tp):Prop where
 d0:1<=t.devs.length
 d1:t.devs.length<=12
 l1:t.links.length<=24
 e1:t.edges.length<=12
 p1:t.pools.length<=8
 t0:0<=t.tol
 t1:t.tol<=2
 dev:∀(i:Nat) d,t.devs[i]? =some d->Gm d/\Dl t.devs d.name=i
 link:∀(i:Nat) l,t.links[i]? =some l->Jy t.devs.length l
 edge:∀(i:Nat) e,t.edges[i]? =some e->edgeOk t.devs.length e/\jX t.edges e.name=i
 apart:∀(i:Nat) e,t.edges[i]? =some e->∀(j:Nat) o,j<i->t.edges[j]? =some o->H9 e o
 pool:∀(i:Nat) p,t.pools[i]? =some p->p.okP/\∀(j:Nat) q,j<i->t.pools[j]? =some q->p.meet q=false
open Classical in
def Pp(t:Tp):Bool:=decide (TopOk t)
theorem M8{t:Tp}(h:TopOk t):Pp t=true:=by simp[Pp,h]
theorem kQ{t:Tp}(h:¬TopOk t):Pp t=false:=by simp[Pp,h]
theorem aER{t:Tp}:Pp t=true↔TopOk t:=by simp[Pp]
theorem aLS(p q:Pf){K:KT}(hK:K (.sb (p.meet q)) []):AC 248 [lN q,.fp [.v (.int .u32 p.addr),.v (.int .i64 p.bits)]] [] K:=by
 refine aIY rfl rfl ?_
 iterate 9 (all_goals((conv=>whnf);first|(with_reducible refine aKv p q ?_)|refine zG ?_|apply zA|intro h|exact zT|skip))
 exact hK
theorem aLo(l:List Pf)(p:Pf)(hl:l.length<1000000){K:KT}(hK:K (.sb (l.any fun q=>p.meet q)) []):
  AC 203 [.lst (l.map lN),.fn (.func 248) [] [.fp [.v (.int .u32 p.addr),.v (.int .i64 p.bits)]]] [] K:=by
 refine gZ (Xd rfl rfl ?_)
 iterate 9 (all_goals((conv=>whnf);first|(with_reducible refine aKl _ _ _ (fun q=>p.meet q) (fun x K h=>aLS p x h) hl ?_)|refine zG ?_|apply zA|intro h|exact zT|skip))
 refine kB hK ?_;rw[bK,bR,aL];constructor
 ·rintro⟨x,hx,hp⟩
  unfold jM;split
  ·omega
  ·rename_i hn;rw[gD]at hn;have:=hn x hx;simp_all
 ·intro h;unfold jM at h;split at h
  ·rename_i i hi;rw[dS]at hi;obtain⟨h1,h2,_⟩:=hi;exact⟨_,dE h1,h2⟩
  ·omega
abbrev kM(t:Tp):Vm.Obj:=.box [.lst (t.devs.map pY),.lst (t.links.map Dn),.lst (t.edges.map lY),.lst (t.pools.map lN),.v (.int .i64 t.tol)]
theorem aSo(t:Tp){K:KT}(hK:K (.sb (Pp t)) []):AC 173 [jT t] [] K:=by
 refine gZ (aQx rfl rfl ?_)
 iterate 50 (all_goals((conv=>whnf);first|refine zG ?_|apply zA|intro h|exact zT|skip))
 all_goals first
  |(exact iU hK (kQ fun hn=>by
    have:=hn.d0;have:=hn.d1;have:=hn.l1;have:=hn.e1;have:=hn.p1;have:=hn.t0;have:=hn.t1;simp only[aA]at*;omega))
  |skip
 obtain⟨d0,d1,l1,e1,p1,t0,t1⟩:1<=t.devs.length/\t.devs.length<=12/\t.links.length<=24/\t.edges.length<=12/\t.pools.length<=8/\0<=t.tol/\t.tol<=2:=by
  simp only[aA]at*;omega
 refine gV Nat (fun k=>⟨1,[(0,kM t)],[(1,.op 0 0),(52,.lst (t.devs.map pY)),(53,.v (.int .i64 (t.devs.map pY).length)),(54,.v (.int .i64 k))]⟩)
  (fun k=>k<=t.devs.length/\∀(i:Nat) d,i<k->t.devs[i]? =some d->Gm d/\Dl t.devs d.name=i) (fun k=>t.devs.length-k) 0 ?_ ?_ ?_
 ·exact⟨aK _,fun i y hi=>absurd hi (bD _)⟩
 ·exact⟨[(0,0)],rfl,⟨rfl,rfl,rfl,rfl,trivial⟩,rfl,trivial⟩
 intro k ⟨hk,hinv⟩;rcases aD k t.devs.length with hkl|hkl
 ·obtain⟨r,hr⟩:=gex hkl
  iterate 40 (all_goals((conv=>whnf);first|(with_reducible first|refine iI hkl ?_|refine iH hr ?_|refine aFv r ?_|refine aSn t _ zo ?_)|refine zG ?_|apply zA|intro h|exact zT|skip))
  ·exact⟨k+1,⟨by omega,iM hr ⟨devB_iff.1 zp,h⟩ hinv⟩,by omega,⟨[(0,0)],rfl,⟨rfl,rfl,rfl,rfl,trivial⟩,rfl,trivial⟩⟩
  ·exact iU hK (kQ fun hn=>h (hn.dev k r hr).2)
  ·exact iU hK (kQ fun hn=>by rw[Lv (hn.dev k r hr).1]at h;cases h)
 have hdev:=iL hkl hinv
 iterate 20 (all_goals((conv=>whnf);first|refine zG ?_|apply zA|intro h|exact zT|skip))
 refine gV Nat (fun k=>⟨1,[(0,kM t)],[(1,.op 0 0),(72,.lst (t.links.map Dn)),(73,.v (.int .i64 (t.links.map Dn).length)),(74,.v (.int .i64 k))]⟩)
  (fun k=>k<=t.links.length/\∀(i:Nat) d,i<k->t.links[i]? =some d->Jy t.devs.length d) (fun k=>t.links.length-k) 0 ?_ ?_ ?_
 ·exact⟨aK _,fun i y hi=>absurd hi (bD _)⟩
 ·exact⟨[(0,0)],rfl,⟨rfl,rfl,rfl,rfl,trivial⟩,rfl,trivial⟩
 intro k ⟨hk,hinv⟩;rcases aD k t.links.length with hkl|hkl
 ·obtain⟨r,hr⟩:=gex hkl
  iterate 50 (all_goals((conv=>whnf);first|(with_reducible first|refine iI hkl ?_|refine iH hr ?_)|refine zG ?_|apply zA|intro h|exact zT|skip))
  all_goals first
   |(refine iU hK (kQ fun hn=>?_)
     obtain⟨n1,n2,n3,n4,n5⟩:=hn.link k r hr;simp only[aA]at*;omega)
   |(refine⟨k+1,⟨by omega,iM hr ?_ hinv⟩,by omega,⟨[(0,0)],rfl,⟨rfl,rfl,rfl,rfl,trivial⟩,rfl,trivial⟩⟩
     unfold Jy;simp only[aA]at*;omega)
 have hlink:=iL hkl hinv
 iterate 20 (all_goals((conv=>whnf);first|refine zG ?_|apply zA|intro h|exact zT|skip))
 refine gV Nat (fun k=>⟨1,[(0,kM t)],[(1,.op 0 0),(108,.lst (t.edges.map lY)),(109,.v (.int .i64 (t.edges.map lY).length)),(110,.v (.int .i64 k))]⟩)
  (fun k=>k<=t.edges.length/\∀(i:Nat) e,i<k->t.edges[i]? =some e->(edgeOk t.devs.length e/\jX t.edges e.name=i)/\∀(j:Nat) o,j<i->t.edges[j]? =some o->H9 e o) (fun k=>t.edges.length-k) 0 ?_ ?_ ?_
 ·exact⟨aK _,fun i y hi=>absurd hi (bD _)⟩
 ·exact⟨[(0,0)],rfl,⟨rfl,rfl,rfl,rfl,trivial⟩,rfl,trivial⟩
 intro k ⟨hk,hinv⟩;rcases aD k t.edges.length with hkl|hkl
 ·obtain⟨r,hr⟩:=gex hkl
  iterate 40 (all_goals((conv=>whnf);first|(with_reducible first|refine iI hkl ?_|refine iH hr ?_|refine aBb t r ?_|refine N7 t _ zo ?_)|refine zG ?_|apply zA|intro h|exact zT|skip))
  ·refine H4 zo ?_;have hlen:(t.edges.take k).length=k:=by simp;omega
   have hget:∀(j:Nat) o,(t.edges.take k)[j]? =some o↔j<k/\t.edges[j]? =some o:=fun j o=>take_get
   iterate 9 (all_goals((conv=>whnf);first|refine zG ?_|apply zA|intro h|exact zT|skip))
   refine gV Nat (fun j=>⟨2,[(1,.box [.v (.string r.name),.v (.int .i64 r.dev),.v (.string r.zone),.v (.int .u32 r.pf.addr),.v (.int .i64 r.pf.bits),.sb r.pl]),(0,kM t)],
    [(1,.op 0 0),(8,.op 1 0),(108,.lst (t.edges.map lY)),(109,.v (.int .i64 (t.edges.map lY).length)),(110,.v (.int .i64 k)),(130,.lst ((t.edges.take k).map lY)),(131,.v (.int .i64 ((t.edges.take k).map lY).length)),(132,.v (.int .i64 j))]⟩)
    (fun j=>j<=(t.edges.take k).length/\∀(i:Nat) o,i<j->(t.edges.take k)[i]? =some o->H9 r o) (fun j=>(t.edges.take k).length-j) 0 ?_ ?_ ?_
   ·exact⟨aK _,fun i y hi=>absurd hi (bD _)⟩
   ·exact⟨[(0,0),(1,1)],rfl,⟨rfl,rfl,rfl,rfl,rfl,rfl,rfl,rfl,trivial⟩,rfl,rfl,trivial⟩
   intro j ⟨hj,hinvj⟩;rcases aD j (t.edges.take k).length with hjl|hjl
   ·obtain⟨o,ho⟩:∃o,(t.edges.take k)[j]? =some o:=⟨_,aE hjl⟩
    have ho2:=(hget j o).1 ho
    iterate 40 (all_goals((conv=>whnf);first|(with_reducible first|refine iI hjl ?_|refine iH ho ?_|refine aKv r.pf o.pf ?_)|refine zG ?_|apply zA|intro h|exact zT|skip))
    all_goals first
     |(refine iU hK (kQ fun hn=>?_)
       exact hn.apart k r hr j o ho2.1 ho2.2 ⟨by assumption,by assumption,by assumption⟩)
     |(refine⟨j+1,⟨by omega,iM ho ?_ hinvj⟩,by omega,⟨[(0,0),(1,1)],rfl,⟨rfl,rfl,rfl,rfl,rfl,rfl,rfl,rfl,trivial⟩,rfl,rfl,trivial⟩⟩
       rintro⟨q1,q2,q3⟩
       simp_all)
   have hap:=iL hjl hinvj
   iterate 20 (all_goals((conv=>whnf);first|refine zG ?_|apply zA|intro h|exact zT|skip))
   exact⟨k+1,⟨by omega,iM hr ⟨⟨edgeB_iff.1 zp,by assumption⟩,fun j o h1 h2=>hap j o ((hget j o).2 ⟨h1,h2⟩)⟩ hinv⟩,by omega,⟨[(0,0)],rfl,⟨rfl,rfl,rfl,rfl,trivial⟩,rfl,trivial⟩⟩
  ·exact iU hK (kQ fun hn=>h (hn.edge k r hr).2)
  ·exact iU hK (kQ fun hn=>by rw[uO (hn.edge k r hr).1]at h;cases h)
 have hedge:=iL hkl hinv
 iterate 20 (all_goals((conv=>whnf);first|refine zG ?_|apply zA|intro h|exact zT|skip))
 refine gV Nat (fun k=>⟨1,[(0,kM t)],[(1,.op 0 0),(154,.lst (t.pools.map lN)),(155,.v (.int .i64 (t.pools.map lN).length)),(156,.v (.int .i64 k))]⟩)
  (fun k=>k<=t.pools.length/\∀(i:Nat) p,i<k->t.pools[i]? =some p->p.okP/\∀(j:Nat) q,j<i->t.pools[j]? =some q->p.meet q=false) (fun k=>t.pools.length-k) 0 ?_ ?_ ?_
 ·exact⟨aK _,fun i y hi=>absurd hi (bD _)⟩
 ·exact⟨[(0,0)],rfl,⟨rfl,rfl,rfl,rfl,trivial⟩,rfl,trivial⟩
 intro k ⟨hk,hinv⟩;rcases aD k t.pools.length with hkl|hkl
 ·obtain⟨r,hr⟩:=gex hkl;have hlen:(t.pools.take k).length=k:=by simp;omega
  have hget:∀(j:Nat) o,(t.pools.take k)[j]? =some o↔j<k/\t.pools[j]? =some o:=fun j o=>take_get
  iterate 40 (all_goals((conv=>whnf);first|(with_reducible first|refine iI hkl ?_|refine iH hr ?_|refine Iq r ?_|refine H4 zo ?_|refine aLo _ r zo ?_)|refine zG ?_|apply zA|intro h|exact zT|skip))
  ·refine iU hK (kQ fun hn=>?_);obtain⟨q,hq1,hq2⟩:=bR.1 h;obtain⟨j,hj⟩:=bH.1 hq1;have hj2:=(hget j q).1 hj;rw[(hn.pool k r hr).2 j q hj2.1 hj2.2]at hq2;cases hq2
  ·refine⟨k+1,⟨by omega,iM hr ⟨by assumption,fun j q h1 h2=>?_⟩ hinv⟩,by omega,⟨[(0,0)],rfl,⟨rfl,rfl,rfl,rfl,trivial⟩,rfl,trivial⟩⟩;rw[fM]at h;have:=h q (aG ((hget j q).2 ⟨h1,h2⟩));simpa using this
  ·exact iU hK (kQ fun hn=>h (hn.pool k r hr).1)
 have hpool:=iL hkl hinv
 iterate 20 (all_goals((conv=>whnf);first|refine zG ?_|apply zA|intro h|exact zT|skip))
 exact kE hK (M8 ⟨d0,d1,l1,e1,p1,t0,t1,hdev,hlink,fun i e he=>(hedge i e he).1,fun i e he=>(hedge i e he).2,hpool⟩)
theorem V2(p:Pf)(l:List Pf)(hl:l.length<1000000){K:KT}(hK:K (.sb (l.any fun q=>p.meet q)) []):AC 220 [lN p,.lst (l.map lN)] [] K:=by
 refine gZ (aDW rfl rfl ?_)
 iterate 4 (all_goals((conv=>whnf);first|refine zG ?_|apply zA|intro h|exact zT|skip))
 refine gV Nat (fun k=>⟨1,[(0,.box [.v (.int .u32 p.addr),.v (.int .i64 p.bits)])],[(1,.lst (l.map lN)),(2,.op 0 0),(5,.v (.int .i64 k))]⟩) (fun k=>k<=l.length/\∀(i:Nat) q,i<k->l[i]? =some q->p.meet q=false) (fun k=>l.length-k) 0 ?_ ?_ ?_
 ·exact⟨aK _,fun i y hi=>absurd hi (bD _)⟩
 ·exact⟨[(0,0)],rfl,⟨rfl,rfl,rfl,trivial⟩,rfl,trivial⟩
 intro k ⟨hk,hinv⟩;rcases aD k l.length with hkl|hkl
 ·obtain⟨r,hr⟩:=gex hkl
  iterate 20 (all_goals((conv=>whnf);first|(with_reducible first|refine iI hkl ?_|refine iH hr ?_|refine aLE p r ?_)|refine zG ?_|apply zA|intro h|exact zT|skip))
  ·exact kE hK (bR.2 ⟨r,aG hr,h⟩)
  ·exact⟨k+1,⟨by omega,iM hr h hinv⟩,by omega,⟨[(0,0)],rfl,⟨rfl,rfl,rfl,trivial⟩,rfl,trivial⟩⟩
 ·have hall:=iL hkl hinv
  iterate 12 (all_goals((conv=>whnf);first|refine zG ?_|apply zA|intro h|exact zT|skip))
  refine iU hK (fM.2 fun q hq=>?_);obtain⟨j,hj⟩:=bH.1 hq;rw[hall j q hj];simp
def fixed(l:List Ed):List Pf:=(l.filter fun e=> !e.pl).map (·.pf)
theorem Tv{l:List Ed}{k:Nat}{e:Ed}(h:l[k]? =some e):fixed (l.take (k+1))=fixed (l.take k)++(if e.pl then []else [e.pf]):=by
 unfold fixed;rw[bE,h,dP,aQ];cases he:e.pl<;>simp[he]
theorem L0(l:List Ed):(fixed l).length<=l.length:=by
 unfold fixed;rw[aA];exact dK _ _
theorem V1(t:Tp)(hl:t.edges.length<1000000){K:KT}(hK:K (.lst ((fixed t.edges).map lN)) []):AC 142 [jT t] [] K:=by
 refine aDV rfl rfl ?_
 iterate 8 (all_goals((conv=>whnf);first|refine zG ?_|apply zA|intro h|exact zT|skip))
 refine gV Nat (fun k=>⟨2,[(1,.arr 2 ((fixed (t.edges.take k)).map lN)),(0,kM t)],[(1,.op 0 0),(3,.os 1 2 0 (fixed (t.edges.take k)).length),(4,.v (.int .i64 k))]⟩) (fun k=>k<=t.edges.length) (fun k=>t.edges.length-k) 0 ?_ ?_ ?_
 ·exact aK _
 ·exact⟨[(0,0),(1,1)],rfl,⟨rfl,rfl,rfl,trivial⟩,rfl,rfl,trivial⟩
 intro k hk;rcases aD k t.edges.length with hkl|hkl
 ·obtain⟨r,hr⟩:=gex hkl;have hs:=Tv hr;have hf:=L0 (t.edges.take k);simp only[aV]at hf
  iterate 30 (all_goals((conv=>whnf);first|(with_reducible first|refine iI hkl ?_|refine iH hr ?_)|refine zG ?_|apply zA|intro h|exact zT|skip))
  ·refine⟨k+1,by omega,by omega,?_⟩;rw[hs,h,aH rfl,bG];exact⟨[(0,0),(1,1)],rfl,⟨rfl,rfl,rfl,trivial⟩,rfl,rfl,trivial⟩
  ·refine⟨k+1,by omega,by omega,?_⟩;rw[hs,h,aF zx,aQ,aC];exact⟨[(0,0),(1,3)],rfl,⟨rfl,rfl,rfl,trivial⟩,rfl,rfl,trivial⟩
 ·iterate 12 (all_goals((conv=>whnf);first|refine zG ?_|apply zA|intro h|exact zT|skip))
  rw[aW hkl];exact hK
theorem aLT(l:List Dv){K:KT}(hK:∀b,(b=true↔(1<=l.length/\l.length<=12)/\∀(i:Nat) d,l[i]? =some d->Gm d/\Dl l d.name=i)->K (.sb b) []):AC 218 [.lst (l.map pY)] [] K:=by
 refine gZ (aJa rfl rfl ?_)
 iterate 16 (all_goals((conv=>whnf);first|refine zG ?_|apply zA|intro h|exact zT|skip))
 all_goals first
  |(refine iU (hK false (iff_of_false zx fun hn=>?_)) rfl
    have:=hn.1;simp only[aA]at*;omega)
  |skip
 obtain⟨d0,d1⟩:1<=l.length/\l.length<=12:=by
  simp only[aA]at*;omega
 refine gV Nat (fun k=>⟨0,[],[(0,.lst (l.map pY)),(3,.v (.int .i64 k))]⟩)
  (fun k=>k<=l.length/\∀(i:Nat) d,i<k->l[i]? =some d->Gm d/\Dl l d.name=i) (fun k=>l.length-k) 0 ?_ ?_ ?_
 ·exact⟨aK _,fun i y hi=>absurd hi (bD _)⟩
 ·exact⟨[],rfl,⟨rfl,rfl,trivial⟩,trivial⟩
 intro k ⟨hk,hinv⟩;rcases aD k l.length with hkl|hkl
 ·obtain⟨r,hr⟩:=gex hkl;have hdv:∀(n:ByteArray) (K:AV->List Vm.Obj->Prop),K (.v (.int .i64 (Dl l n))) []->AC 270 [.agg [.lst (l.map pY),.lst [],.lst [],.lst [],.v (.int .i64 0)],.v (.string n)] [] K:=
   fun n K h=>aSp ⟨l,[],[],[],0⟩ n (by show l.length<1000000;omega) h
  iterate 90 (all_goals((conv=>whnf);first|(with_reducible first|refine iI hkl ?_|refine iH hr ?_|refine vW _ ?_|refine hdv _ _ ?_)|refine zG ?_|apply zA|intro h|exact zT|skip))
  all_goals first
   |(refine iU (hK false (iff_of_false zx fun hn=>?_)) rfl
     obtain⟨⟨n1,n2,n3,n4⟩,n5⟩:=hn.2 k r hr
     first|omega|exact qD zp n1|exact n4.elim (fun n6=>by simp_all[sEq]) (fun n6=>qD zp n6)|(exact absurd n5 zp))
   |(refine⟨k+1,⟨by omega,iM hr ⟨⟨nameB_iff.1 zp,by omega,by omega,?_⟩,by assumption⟩ hinv⟩,by omega,⟨[],rfl,⟨rfl,rfl,trivial⟩,trivial⟩⟩
     first|exact .inr (nameB_iff.1 zp)|(left;simp_all[sEq];done))
 ·have hall:=iL hkl hinv
  iterate 12 (all_goals((conv=>whnf);first|refine zG ?_|apply zA|intro h|exact zT|skip))
  exact kE (hK true (iff_of_true rfl ⟨⟨d0,d1⟩,hall⟩)) rfl
theorem aEA{α:Type}{R:α->α->Prop}{l:List α}:l.Pairwise R↔∀(i:Nat) x,l[i]? =some x->∀(j:Nat) y,j<i->l[j]? =some y->R y x:=by
 rw[dL];constructor
 ·intro h i x hx j y hj hy;obtain⟨h1,rfl⟩:=aP.1 hx;obtain⟨h2,rfl⟩:=aP.1 hy;exact h j i h2 h1 hj
 ·intro h i j hi hj hij;exact h j _ (aE hj) i _ hij (aE hi)
theorem fixed_apart{l:List Ed}:(∀(i:Nat) p,(fixed l)[i]? =some p->∀(j:Nat) q,j<i->(fixed l)[j]? =some q->p.meet q=false)↔∀(i:Nat) e,l[i]? =some e->∀(j:Nat) o,j<i->l[j]? =some o->H9 e o:=by
 rw[<-aEA (R:=fun q p:Pf=>p.meet q=false),<-aEA (R:=fun o e:Ed=>H9 e o),fixed,List.pairwise_map,List.pairwise_filter];constructor
 ·refine List.Pairwise.imp fun {o e} h=>?_
  rintro⟨h1,h2,h3⟩
  rw[h (by simp[h2]) (by simp[h1])]at h3;cases h3
 ·refine List.Pairwise.imp fun {o e} h=>?_;intro h1 h2;cases hm:e.pf.meet o.pf with
  |false=>rfl
  |true=>exact absurd ⟨by simpa using h2,by simpa using h1,hm⟩ h
theorem aSq(t:Tp){K:KT}(hK:K (.sb (Pp t)) []):AC 141 [jT t] [] K:=by
 refine gZ (aQz rfl rfl ?_)
 iterate 6 (all_goals((conv=>whnf);first|refine zG ?_|apply zA|intro h|exact zT|skip))
 refine aLT t.devs fun db hdb=>?_
 iterate 50 (all_goals((conv=>whnf);first|refine zG ?_|apply zA|intro h|exact zT|skip))
 all_goals first
  |(exact iU hK (kQ fun hn=>by
    have h0:=hdb.2 ⟨⟨hn.d0,hn.d1⟩,hn.dev⟩;have:=hn.l1;have:=hn.e1;have:=hn.p1;have:=hn.t0;have:=hn.t1;(try simp only[aA]at*)
    first|omega|(rw[h0]at h;cases h)))
  |skip
 obtain⟨l1,e1,p1,t0,t1⟩:t.links.length<=24/\t.edges.length<=12/\t.pools.length<=8/\0<=t.tol/\t.tol<=2:=by
  simp only[aA]at*;omega
 have hdb':=hdb.1 zp;refine gV Nat (fun k=>⟨1,[(0,kM t)],[(1,.op 0 0),(3,.v (.int .i64 k))]⟩)
  (fun k=>k<=t.links.length/\∀(i:Nat) d,i<k->t.links[i]? =some d->Jy t.devs.length d) (fun k=>t.links.length-k) 0 ?_ ?_ ?_
 ·exact⟨aK _,fun i y hi=>absurd hi (bD _)⟩
 ·exact⟨[(0,0)],rfl,⟨rfl,rfl,trivial⟩,rfl,trivial⟩
 intro k ⟨hk,hinv⟩;rcases aD k t.links.length with hkl|hkl
 ·obtain⟨r,hr⟩:=gex hkl
  iterate 50 (all_goals((conv=>whnf);first|(with_reducible first|refine iI hkl ?_|refine iH hr ?_)|refine zG ?_|apply zA|intro h|exact zT|skip))
  all_goals first
   |(refine iU hK (kQ fun hn=>?_)
     obtain⟨n1,n2,n3,n4,n5⟩:=hn.link k r hr;simp only[aA]at*;omega)
   |(refine⟨k+1,⟨by omega,iM hr ?_ hinv⟩,by omega,⟨[(0,0)],rfl,⟨rfl,rfl,trivial⟩,rfl,trivial⟩⟩
     unfold Jy;simp only[aA]at*;omega)
 have hlink:=iL hkl hinv
 iterate 20 (all_goals((conv=>whnf);first|refine zG ?_|apply zA|intro h|exact zT|skip))
 refine gV Nat (fun k=>⟨1,[(0,kM t)],[(1,.op 0 0),(5,.v (.int .i64 k))]⟩)
  (fun k=>k<=t.edges.length/\∀(i:Nat) e,i<k->t.edges[i]? =some e->edgeOk t.devs.length e/\jX t.edges e.name=i) (fun k=>t.edges.length-k) 0 ?_ ?_ ?_
 ·exact⟨aK _,fun i y hi=>absurd hi (bD _)⟩
 ·exact⟨[(0,0)],rfl,⟨rfl,rfl,trivial⟩,rfl,trivial⟩
 intro k ⟨hk,hinv⟩;rcases aD k t.edges.length with hkl|hkl
 ·obtain⟨r,hr⟩:=gex hkl;have hed:∀(K:AV->List Vm.Obj->Prop),K (.sb (Dm t.devs.length r)) []->AC 219 [lY r,.v (.int .i64 (t.devs.map pY).length)] [] K:=fun K h=>aBd r _ (by rw[aA];exact h)
  iterate 40 (all_goals((conv=>whnf);first|(with_reducible first|refine iI hkl ?_|refine iH hr ?_|refine hed _ ?_|refine vY t _ zo ?_)|refine zG ?_|apply zA|intro h|exact zT|skip))
  ·exact⟨k+1,⟨by omega,iM hr ⟨edgeB_iff.1 zp,h⟩ hinv⟩,by omega,⟨[(0,0)],rfl,⟨rfl,rfl,trivial⟩,rfl,trivial⟩⟩
  ·exact iU hK (kQ fun hn=>h (hn.edge k r hr).2)
  ·exact iU hK (kQ fun hn=>by rw[uO (hn.edge k r hr).1]at h;cases h)
 have hedge:=iL hkl hinv;have hfl:=L0 t.edges
 iterate 20 (all_goals((conv=>whnf);first|(with_reducible refine V1 t zo ?_)|refine zG ?_|apply zA|intro h|exact zT|skip))
 refine gV Nat (fun k=>⟨1,[(0,kM t)],[(1,.op 0 0),(6,.lst ((fixed t.edges).map lN)),(7,.v (.int .i64 k))]⟩)
  (fun k=>k<=(fixed t.edges).length/\∀(i:Nat) p,i<k->(fixed t.edges)[i]? =some p->∀(j:Nat) q,j<i->(fixed t.edges)[j]? =some q->p.meet q=false) (fun k=>(fixed t.edges).length-k) 0 ?_ ?_ ?_
 ·exact⟨aK _,fun i y hi=>absurd hi (bD _)⟩
 ·exact⟨[(0,0)],rfl,⟨rfl,rfl,rfl,trivial⟩,rfl,trivial⟩
 intro k ⟨hk,hinv⟩;rcases aD k (fixed t.edges).length with hkl|hkl
 ·obtain⟨r,hr⟩:∃r,(fixed t.edges)[k]? =some r:=⟨_,aE hkl⟩
  have hlen:((fixed t.edges).take k).length=k:=by simp;omega
  iterate 40 (all_goals((conv=>whnf);first|(with_reducible first|refine iI hkl ?_|refine iH hr ?_|refine H4 zo ?_|refine V2 r _ zo ?_)|refine zG ?_|apply zA|intro h|exact zT|skip))
  ·refine iU hK (kQ fun hn=>?_);obtain⟨q,hq1,hq2⟩:=bR.1 h;obtain⟨j,hj⟩:=bH.1 hq1;have hj2:=take_get.1 hj;rw[fixed_apart.2 hn.apart k r hr j q hj2.1 hj2.2]at hq2;cases hq2
  ·refine⟨k+1,⟨by omega,iM hr (fun j q h1 h2=>?_) hinv⟩,by omega,⟨[(0,0)],rfl,⟨rfl,rfl,rfl,trivial⟩,rfl,trivial⟩⟩;rw[fM]at h;have:=h q (aG (take_get.2 ⟨h1,h2⟩));simpa using this
 have hfix:=fixed_apart.1 (iL hkl hinv)
 iterate 20 (all_goals((conv=>whnf);first|refine zG ?_|apply zA|intro h|exact zT|skip))
 refine gV Nat (fun k=>⟨1,[(0,kM t)],[(1,.op 0 0),(8,.v (.int .i64 k))]⟩)
  (fun k=>k<=t.pools.length/\∀(i:Nat) p,i<k->t.pools[i]? =some p->p.okP/\∀(j:Nat) q,j<i->t.pools[j]? =some q->p.meet q=false) (fun k=>t.pools.length-k) 0 ?_ ?_ ?_
 ·exact⟨aK _,fun i y hi=>absurd hi (bD _)⟩
 ·exact⟨[(0,0)],rfl,⟨rfl,rfl,trivial⟩,rfl,trivial⟩
 intro k ⟨hk,hinv⟩;rcases aD k t.pools.length with hkl|hkl
 ·obtain⟨r,hr⟩:=gex hkl;have hlen:(t.pools.take k).length=k:=by simp;omega
  iterate 40 (all_goals((conv=>whnf);first|(with_reducible first|refine iI hkl ?_|refine iH hr ?_|refine Qo r ?_|refine H4 zo ?_|refine V2 r _ zo ?_)|refine zG ?_|apply zA|intro h|exact zT|skip))
  ·refine iU hK (kQ fun hn=>?_);obtain⟨q,hq1,hq2⟩:=bR.1 h;obtain⟨j,hj⟩:=bH.1 hq1;have hj2:=take_get.1 hj;rw[(hn.pool k r hr).2 j q hj2.1 hj2.2]at hq2;cases hq2
  ·refine⟨k+1,⟨by omega,iM hr ⟨by assumption,fun j q h1 h2=>?_⟩ hinv⟩,by omega,⟨[(0,0)],rfl,⟨rfl,rfl,trivial⟩,rfl,trivial⟩⟩;rw[fM]at h;have:=h q (aG (take_get.2 ⟨h1,h2⟩));simpa using this
  ·exact iU hK (kQ fun hn=>h (hn.pool k r hr).1)
 have hpool:=iL hkl hinv
 iterate 20 (all_goals((conv=>whnf);first|refine zG ?_|apply zA|intro h|exact zT|skip))
 exact kE hK (M8 ⟨hdb'.1.1,hdb'.1.2,l1,e1,p1,t0,t1,hdb'.2,hlink,hedge,hfix,hpool⟩)
def aNl:Ctx:={N:=25}
abbrev aIl:=ofD aNl Tryz.func24
def aTY:Ctx:={N:=14}
abbrev aPU:=ofD aTY Tryz.func90
def Ao:Sched:=ln [15,17,19,20,22]
def Ap:Sched:=ln [12,15,17,19,22]
def Bq:Sched:=.alt 6 Ao (.alt 10 Ap Ab)
def Al:Sched:=ln [8,15,17,19,22]
def Bp:Sched:=.alt 4 Ao (.alt 10 Al Ab)
def Bo:Sched:=.alt 4 Ap (.alt 6 Al Ab)
def Bv:Sched:=lz [15,17] (.alt 0 (ln [5,7,19,20,22]) (.alt 10 (ln [0,5,7,19,22]) Ab))
def Aq:Sched:=ln [15,17,0,5,7,19,22]
def B3:Sched:=.alt 0 (lz [5] (.wch 3 Ap)) (.alt 6 Aq Ab)
def Bu:Sched:=.alt 0 (ln [5,7,8,15,17,19,22]) (.alt 4 Aq Ab)
def Ch:Sched:=lz [1,5,7,11,15] (.wch 1 (.alt 4 (.alt 6 (ln [16,19,21,23,24,26,29,30]) (.alt 8 (ln [12,19,21,23,24,26,29,30]) Ab)) (.alt 6 (ln [8,16,19,21,23,24,26,29,30]) Ab)))
def A0:Sched:=ln [22,25,27,30,33,34,36,39,40]
def B1:Sched:=.alt 9 (ln [25,27,30,33,34,36,39,40]) (.alt 15 (ln [18,25,27,33,34,36,39,40]) Ab)
def Cg:Sched:=.alt 9 A0 (.alt 11 B1 Ab)
def A5:Sched:=ln [16,22,25,27,30,33,34,36,39,40]
def B5:Sched:=lz [25,27] (.alt 2 (ln [9,11,30,33,34,36,39,40]) (.alt 15 (ln [4,9,11,33,34,36,39,40]) Ab))
def Ci:Sched:=.alt 2 (lz [9] (.wch 5 A0)) (.alt 11 B5 Ab)
def aTZ:Ctx:={N:=154,np:=1,own:=oz [14],plan:=p1 6 (lz [3,11] (.alt 0 (lz [5] (.wch 3 (.alt 4 Bq (.alt 6 Bp (.alt 10 Bo Ab))))) (.alt 4 (.alt 0 (lz [5] (.wch 3 Bq)) (.alt 6 Bv (.alt 10 B3 Ab))) (.alt 6 (.alt 0 (lz [5,7] Bp) (.alt 4 Bv (.alt 10 Bu Ab))) (.alt 10 (.alt 0 (lz [5] (.wch 3 Bo)) (.alt 4 B3 (.alt 6 Bu Ab))) Ab))))) (p1 11 Ch (p1 16 Ch (p1 21 (lz [1,7,13,15,21,29] (.wch 1 (.alt 2 (lz [9] (.wch 5 (.alt 8 Cg (.alt 9 A5 Ab)))) (.alt 8 (.alt 2 (lz [9] (.wch 5 Cg)) (.alt 9 Ci (.alt 11 (.alt 2 (lz [9,11] B1) (.alt 9 B5 (.alt 15 (.alt 2 (ln [9,11,18,25,27,33,34,36,39,40]) (.alt 9 (ln [25,27,4,9,11,33,34,36,39,40]) Ab)) Ab))) Ab))) (.alt 9 (.alt 2 (lz [9] (.wch 5 A5)) (.alt 8 Ci Ab)) Ab))))) pn))),hints:=h1 2 [.virtB 5 0 5,.virtB 5 1 3,.virtB 5 2 6,.virtB 5 3 2] hn,cut:=oz [7,17,20],res:=true}
abbrev aPV:=ofD aTZ Tryz.func42
end Go.Proofs.YtgicddadddhonaaGreatDoor
