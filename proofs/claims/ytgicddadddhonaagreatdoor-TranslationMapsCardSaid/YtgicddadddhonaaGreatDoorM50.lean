/- Lemmas. -/
import Derived.Test.YtgicddadddhonaaGreatDoorProg
import Derived.Test.YtgicddadddhonaaGreatDoorM33
set_option linter.unusedVariables false
set_option linter.unusedSimpArgs false
set_option maxRecDepth 100000
set_option maxHeartbeats 4000000
noncomputable section
namespace Go.Proofs.YtgicddadddhonaaGreatDoor
open Go Go.Vm
def Hi.ok(x:Hi):Prop:=x.mt.ok/\x.ports.lo<=x.ports.hi/\x.ports.hi<=65535
instance (x:Hi):Decidable x.ok:=by unfold Hi.ok;infer_instance
def Jo(x:Hi)(b:Bx):Bx:=⟨mkR x.addr x.addr,b.r1,b.r2,x.ports,b.r4⟩
def Jm(x:Hi)(p:List Bx):Option (List Bx):=if(jH orB 5 (p.map (Jo x)) []).length<=4096 then some (jH orB 5 (p.map (Jo x)) [])else none
def wI:List Hi->List Bx->List Bx->Option (List Bx×List Bx)
 |[],rest,out=>some (rest,out)
 |x::l,rest,out=>if x.ok then
   (kR anB rest [x.mt]).bind fun part=>(kR woB rest [x.mt]).bind fun rest'=>(Jm x part).bind fun img=>(kR orB out img).bind fun out'=>wI l rest' out'
  else wI l rest out
def T0(l:List Hi)(s:List Bx):Option (List Bx):=if(jK s).2=0 then(wI l (jK s).1 []).bind fun x=>kR orB x.2 x.1 else none
def qZ:List Hi->List Bx->Option (List (List Bx)×List Bx)
 |[],rest=>some ([],rest)
 |x::l,rest=>if x.ok then(kR anB rest [x.mt]).bind fun part=>(kR woB rest [x.mt]).bind fun rest'=>(qZ l rest').bind fun y=>some (part::y.1,y.2)else(qZ l rest).bind fun y=>some ([]::y.1,y.2)
def uF:List Hi->List (List Bx)->List Bx->Option (List Bx)
 |x::l,p::ps,out=>if x.ok then(Jm x p).bind fun img=>(kR orB out img).bind fun out'=>uF l ps out' else uF l ps out
 |_,_,out=>some out
theorem H0:∀(l:List Hi) (rest out:List Bx),wI l rest out=(qZ l rest).bind fun y=>(uF l y.1 out).bind fun o=>some (y.2,o)
 |[],rest,out=>rfl
 |x::l,rest,out=>by
  rw[wI,qZ];split
  ·rename_i hx;cases h1:kR anB rest [x.mt]with
   |none=>rfl
   |some part=>
    simp only[bU];cases h2:kR woB rest [x.mt]with
    |none=>rfl
    |some rest'=>
     simp only[bU];cases h3:qZ l rest' with
     |none=>
      simp only[eC];cases h4:Jm x part with
      |none=>rfl
      |some img=>
       simp only[bU];cases h5:kR orB out img with
       |none=>rfl
       |some out'=>simp only[bU];rw[H0 l rest' out',h3];rfl
     |some y=>
      simp only[bU,uF,aH hx];cases h4:Jm x part with
      |none=>rfl
      |some img=>
       simp only[bU];cases h5:kR orB out img with
       |none=>rfl
       |some out'=>simp only[bU];rw[H0 l rest' out',h3];rfl
  ·rename_i hx;rw[H0 l rest out];cases h3:qZ l rest with
   |none=>rfl
   |some y=>simp only[bU,uF,aF hx]
theorem Qi{X:List Bx}{r:Rg}(h:∀x,x∈X->x.r0=r)(h1:r.lo<=r.hi):jH orB 5 X []=(jH orB 4 X []).map fun b=>b.put 0 r:=by
 have hat:∀v,atF 0 v X=if r.lo<=v/\v<=r.hi then X else []:=fun v=>by
  unfold atF;split
  ·rename_i hv;rw[dW];intro x hx;have:x.get 0=r:=h x hx;rw[this,decide_eq_true hv.1,decide_eq_true hv.2];rfl
  ·rename_i hv;rw[fR];intro x hx;have:x.get 0=r:=h x hx;rw[this,aJ,aL,aL];exact hv
 have hR:∀v,iY orB 4 X [] v=if r.lo<=v/\v<=r.hi then jH orB 4 X []else []:=fun v=>by
  show jH orB 4 (atF 0 v X) (atF 0 v [])=_;rw[hat v];split
  ·rfl
  ·exact rU orB rfl 4
 have hh:r.hi<=4294967295:=r.h1;have hl:=r.l0;have g:=mU orB 4 X [] (mA (lO (4-4) X []) (kF (4-4)).1);rw[kT];by_cases hz:jH orB 4 X []=[]
 ·have:GInv (iY orB 4 X []) [] (iX (4-4)+1):=⟨.nil,fun v=>by
   rw[uT];split
   ·unfold lab;rw[aH (by rw[hR v,hz];split<;>rfl)]
   ·rfl,fun g h=>(by cases h),fun g h=>(by cases h)⟩
  rw[g.same this,hz];rfl
 ·have:GInv (iY orB 4 X []) [⟨r.lo,r.hi,jH orB 4 X []⟩] (iX (4-4)+1):=⟨.one _ h1,fun v=>by
   rw[lB,uT];show _=if 0<=v/\v<4294967295+1 then lab (iY orB 4 X []) v else none;unfold lab;rw[hR v];by_cases hv:r.lo<=v/\v<=r.hi
   ·rw[aH hv,aH ⟨by omega,by omega⟩,aH hv,aF (by simpa using hz)]
   ·rw[aF hv,aF hv];split<;>simp,fun g h=>by
   rw[aU]at h;subst h;exact⟨hl,by show r.hi<4294967295+1;omega⟩,fun g h=>by
   rw[aU]at h;subst h;exact hz⟩
  rw[g.same this];unfold iZ;rw[cS,List.flatMap_nil,bG];show _=(jH orB 4 X []).map fun b=>b.put 0 r;rw[J0]
theorem Qf:∀(k:Nat) (b:Bx),nL k [b]=true
 |0,b=>rfl
 |k+1,b=>by
  rw[nL];show rL (nL k) (4-k) [] [[b]]=true;unfold rL;rw[Qf k b];rfl
theorem Il{b:Bx}(h:b.ok){k:Nat}(hk:k<=5):jH orB k [b] []=[jG k b]:=by
 have:=(tU k [b] hk (fun x hx f hf _=>by rw[aU.1 hx];exact ok_get h f hf) (fun _ h=>by cases h)).1 (Qf k b);rw[this];rfl
def yE(x:Hi)(b:Bx)(i:Nat):Bx:=⟨mkR (2*(i:Int)) (2*(i:Int)),b.r1,b.r2,x.ports,b.r4⟩
def lU(x:Hi):Nat->List Bx->List Bx
 |_,[]=>[]
 |i,b::l=>yE x b i::lU x (i+1) l
theorem vU(x:Hi):∀(l:List Bx) (i:Nat),(lU x i l).length=l.length
 |[],_=>rfl
 |b::l,i=>by rw[lU,aB,aB,vU x l]
def yF(b:Bx):Grp (List Bx):=⟨b.r0.lo,b.r0.hi,[jG 4 b]⟩
theorem Wo(x:Hi)(b:Bx){i:Nat}(hi:i<=5000):(yF (yE x b i)).lo=2*(i:Int)/\(yF (yE x b i)).hi=2*(i:Int):=nD zo zo zo zo
theorem apaL_wf{x:Hi}:∀{l:List Bx} {i:Nat},i+l.length<=4096->Wf ((lU x i l).map yF)/\(∀g,g∈(lU x i l).map yF->2*(i:Int)<=g.lo)
 |[],_,_=>⟨.nil,fun g h=>by cases h⟩
 |[b],i,hl=>by
  have e:(mkR (2*(i:Int)) (2*(i:Int))).lo=2*(i:Int)/\(mkR (2*(i:Int)) (2*(i:Int))).hi=2*(i:Int):=nD zo (by simp at hl;omega) zo (by simp at hl;omega);refine⟨.one _ ?_,fun g h=>?_⟩
  ·show(mkR (2*(i:Int)) (2*(i:Int))).lo<=(mkR (2*(i:Int)) (2*(i:Int))).hi;omega
  ·simp only[lU,aR,bI,aU]at h;subst h;show _<=(mkR (2*(i:Int)) (2*(i:Int))).lo;omega
 |b::c::l,i,hl=>by
  rw[aB,aB]at hl;obtain⟨h1,h2⟩:=apaL_wf (l:=c::l) (i:=i+1) (by rw[aB];omega);have e:(mkR (2*(i:Int)) (2*(i:Int))).lo=2*(i:Int)/\(mkR (2*(i:Int)) (2*(i:Int))).hi=2*(i:Int):=nD zo zo zo zo;refine⟨?_,fun g h=>?_⟩
  ·obtain⟨g0,g1⟩:=Wo x b (i:=i) zo;obtain⟨g2,_⟩:=Wo x c (i:=i+1) zo;simp only[lU,aR]at h1⊢;refine .cons _ _ _ ?_ ?_ ?_ h1
   ·rw[g0,g1];exact cC _
   ·rw[g1,g2];omega
   ·rw[g1,g2];intro h;omega
  ·rw[lU,aR]at h;rcases aZ.1 h with rfl|h
   ·show _<=(mkR (2*(i:Int)) (2*(i:Int))).lo;omega
   ·have:=h2 g h;omega
section
variable {x:Hi} (hx:x.ok)
include hx
theorem Vq{b:Bx}(h:b.ok){i:Nat}(hi:i<=4096):(yE x b i).ok:=by
 obtain⟨_,h1,h2,h3,h4⟩:=h;refine⟨?_,h1,h2,hx.2,h4⟩;show(mkR (2*(i:Int)) (2*(i:Int))).okF 0;unfold Rg.okF;rw[kI zo zo zo zo,kP zo zo zo zo];exact⟨cC _,by show 2*(i:Int)<=4294967295;omega⟩
theorem Nj:∀{l:List Bx} {i:Nat},(∀b,b∈l->b.ok)->i+l.length<=4096->∀y,y∈lU x i l->y.ok
 |[],_,_,_,y,h=>by cases h
 |b::l,i,hb,hl,y,h=>by
  rw[aB]at hl;rcases aZ.1 h with rfl|h
  ·exact Vq hx (hb b zx) zo
  ·exact Nj (fun c hc=>hb c (aS _ hc)) zo y h
theorem Vp:∀{l:List Bx} {i:Nat},(∀b,b∈l->b.ok)->i+l.length<=4096->∀v,jH orB 4 (atF 0 v (lU x i l)) []=(gAt ((lU x i l).map yF) v).getD []
 |[],_,_,_,v=>rU orB rfl 4
 |b::l,i,hb,hl,v=>by
  have ih:=Vp (l:=l) (i:=i+1) (fun c hc=>hb c (aS _ hc)) (by rw[aB]at hl;omega) v;have hlow:=(apaL_wf (x:=x) (l:=l) (i:=i+1) (by rw[aB]at hl;omega)).2;rw[aB]at hl;have e:(mkR (2*(i:Int)) (2*(i:Int))).lo=2*(i:Int)/\(mkR (2*(i:Int)) (2*(i:Int))).hi=2*(i:Int):=nD zo zo zo zo;rw[lU,aR,lB];have hg:(yF (yE x b i)).lo=2*(i:Int)/\(yF (yE x b i)).hi=2*(i:Int):=e;by_cases hv:v=2*(i:Int)
  ·rw[aH zo];have h0:atF 0 v (lU x (i+1) l)=[]:=by
    unfold atF;rw[fR];intro y hy;have:=hlow (yF y) (bQ.2 ⟨y,hy,rfl⟩);have h1:2*((i+1:Nat):Int)<=(y.get 0).lo:=this;rw[aJ,aL,aL];omega
   have h1:atF 0 v (yE x b i::lU x (i+1) l)=[yE x b i]:=by
    unfold atF at h0⊢;have e1:((yE x b i).get 0).lo=2*(i:Int):=e.1;have e2:((yE x b i).get 0).hi=2*(i:Int):=e.2;rw[gL (by rw[e1,e2,decide_eq_true zo,decide_eq_true zo];rfl),h0]
   rw[h1,Il (Vq hx (hb b zx) zo) zd];rfl
  ·rw[aF zo,<-ih]
   congr 1
   unfold atF;have e1:((yE x b i).get 0).lo=2*(i:Int):=e.1;have e2:((yE x b i).get 0).hi=2*(i:Int):=e.2;rw[List.filter_cons_of_neg];rw[e1,e2,aJ,aL,aL];omega
theorem Lb{l:List Bx}(hb:∀b,b∈l->b.ok)(hl:l.length<=4096):jH orB 5 (lU x 0 l) []=lU x 0 l:=by
 have hl:0+l.length<=4096:=by omega
 obtain⟨hwf,hlo⟩:=apaL_wf (x:=x) (l:=l) (i:=0) hl;have hok:=Nj hx (l:=l) (i:=0) hb hl;have g:=mU orB 4 (lU x 0 l) [] (mA (lO (4-4) (lU x 0 l) []) (kF (4-4)).1);have:GInv (iY orB 4 (lU x 0 l) []) ((lU x 0 l).map yF) (iX (4-4)+1):=by
  have hbd:∀g,g∈(lU x 0 l).map yF->0<=g.lo/\g.hi<iX (4-4)+1:=fun g hg=>by
   obtain⟨y,hy,rfl⟩:=bQ.1 hg;have:=(hok y hy).1;unfold Rg.okF at this;have h0:=y.r0.l0;have h1:=y.r0.h1;exact⟨h0,by show y.r0.hi<4294967295+1;omega⟩
  refine⟨hwf,fun v=>?_,hbd,fun g hg=>?_⟩
  ·have ha:=Vp hx (l:=l) (i:=0) hb hl v;unfold lab;show _=if _ then(if(jH orB 4 (atF 0 v (lU x 0 l)) []).isEmpty then none else some (jH orB 4 (atF 0 v (lU x 0 l)) []))else none;rw[ha];cases hg:gAt ((lU x 0 l).map yF) v with
   |none=>simp
   |some q=>
    obtain⟨g,h1,h2,h3,rfl⟩:=Dw hg;have:=hbd g h1;obtain⟨y,hy,rfl⟩:=bQ.1 h1;rw[aH ⟨by omega,by omega⟩];simp[yF]
  ·obtain⟨y,hy,rfl⟩:=bQ.1 hg;simp[yF]
 rw[kT,g.same this];unfold iZ;rw[List.flatMap_map];have:∀L:List Bx,(L.flatMap fun y=>(yF y).val.map fun b=>b.put (4-4) (mkR (yF y).lo (yF y).hi))=L:=fun L=>by
  induction L with
  |nil=>rfl
  |cons y L ih=>
   rw[cS,ih];show [(jG 4 y).put 0 (mkR y.r0.lo y.r0.hi)]++L=y::L;rw[J0];rfl
 exact this _
theorem aAj{l:List Bx}(hb:∀b,b∈l->b.ok)(hl:l.length<=4096):jW (lU x 0 l)=true:=by
 have hok:=Nj hx (l:=l) (i:=0) hb zo;have:=yA (op:=orB) (a:=lU x 0 l) (b:=[]) (by rw[Lb hx hb hl,vU];exact hl)
 rwa[Lb hx hb hl]at this
end
def top0:Rg:=mkR 0 4294967295
theorem aCP(a:Int):(mkR a a).lo<=(mkR a a).hi:=by
 unfold mkR;split<;>exact cC _
theorem P3(x:Hi)(q:Nat->Int):∀(l:List Bx) (i:Nat),jB q 4 ((lU x i l).map fun b=>b.put 0 top0)=jB q 4 (l.map (Jo x))
 |[],_=>rfl
 |b::l,i=>by
  have ih:=P3 x q l (i+1);unfold jB at ih⊢;rw[lU,aR,aR,fA,fA,ih];rfl
theorem aCt(x:Hi)(p:List Bx):jH orB 5 (p.map (Jo x)) []=(jH orB 5 ((lU x 0 p).map fun b=>b.put 0 top0) []).map fun b=>b.put 0 (mkR x.addr x.addr):=by
 rw[Qi (r:=mkR x.addr x.addr) (fun y hy=>by
  obtain⟨b,_,rfl⟩:=bQ.1 hy;rfl) (aCP _),Qi (r:=top0) (fun y hy=>by
  obtain⟨b,_,rfl⟩:=bQ.1 hy;rfl) zd,gU,Qh orB 4 ((lU x 0 p).map fun b=>b.put 0 top0) [] (p.map (Jo x)) [] zd (fun q _=>P3 x q p 0) (fun _ _=>rfl)]
 refine eF fun b _=>?_;exact put_put.symm
theorem Di{op:Bool->Bool->Bool}{a b X:List Bx}(ha:jW a=true)(hb:jW b=true)(hX:jW X=true)(h:∀q,InP q->op (jB q 5 a) (jB q 5 b)=jB q 5 X):kR op a b=some X:=by
 have hc:jH op 5 a b=X:=by
  rw[<-F7 hX];exact tV op orB 5 _ _ _ _ (aO _) fun q hq=>by rw[h q hq,lW,orB,fW]
 have hl:=(kU hX).len;unfold kR;rw[rW ha hb,hc];have h0:pM X=0:=by unfold pM;rw[aF zo]
 rw[aH h0];show some (nZ X)=some X;unfold nZ;rw[aF zo]
theorem sR{b:Bx}(h:b.ok):jW [b]=true:=by
 have e:jH orB 5 [b] []=[b]:=by rw[Il h (aO _),rC]
 have:=yA (op:=orB) (a:=[b]) (b:=[]) (by rw[e];simp)
 rwa[e]at this
def hdB(h:Hd):Bx:=⟨mkR h.src h.src,mkR h.dst h.dst,mkR h.pro h.pro,mkR h.sp h.sp,mkR h.dp h.dp⟩
section
variable {h:Hd} (ho:h.Ok)
include ho
theorem Tz:((mkR h.src h.src).lo=h.src/\(mkR h.src h.src).hi=h.src)/\((mkR h.dst h.dst).lo=h.dst/\(mkR h.dst h.dst).hi=h.dst)/\((mkR h.pro h.pro).lo=h.pro/\(mkR h.pro h.pro).hi=h.pro)/\((mkR h.sp h.sp).lo=h.sp/\(mkR h.sp h.sp).hi=h.sp)/\((mkR h.dp h.dp).lo=h.dp/\(mkR h.dp h.dp).hi=h.dp):=by
 obtain⟨s0,s1,d0,d1,p0,p1,a0,a1,b0,b1⟩:=ho;refine⟨nD ?_ ?_ ?_ ?_,nD ?_ ?_ ?_ ?_,nD ?_ ?_ ?_ ?_,nD ?_ ?_ ?_ ?_,nD ?_ ?_ ?_ ?_⟩<;>omega
theorem Wt:∀f,f<=4->((hdB h).get f).lo=hdQ h f/\((hdB h).get f).hi=hdQ h f:=fun f hf=>by
 obtain⟨h0,h1,h2,h3,h4⟩:=Tz ho
 match f,hf with
 |0,_=>exact h0
 |1,_=>exact h1
 |2,_=>exact h2
 |3,_=>exact h3
 |4,_=>exact h4
theorem Jj:(hdB h).ok:=Fr fun f hf=>by
 obtain⟨e1,e2⟩:=Wt ho f hf;have:=aCj ho f;rw[e1,e2];exact⟨cC _,this.2⟩
theorem aCi{q:Nat->Int}(hi:inK q 5 (hdB h)=true):∀f,f<=4->5<=f+5->q f=hdQ h f:=fun f hf _=>by
 have h1:=inK_iff.1 hi f hf;obtain⟨e1,e2⟩:=Wt ho f hf;omega
theorem Xh{m:Bx}(hm:m.ok):kR anB [hdB h] [m]=some (if oG m h=true then [hdB h]else []):=by
 have hs:=sR (Jj ho);refine Di hs (sR hm) (by split;exact hs;exact jP) fun q hq=>?_;rw[nS,nS];cases hi:inK q 5 (hdB h)with
 |false=>
  split
  ·rw[nS,hi];rfl
  ·rfl
 |true=>
  have e:=uG 5 m (aO _) (aCi ho hi);rw[e];by_cases hc:oG m h=true
  ·rw[aH hc,nS,hi,((rN m h).1 hc).1];rfl
  ·rw[aF hc,lW];have:inK (hdQ h) 5 m=false:=by
    rw[bY];intro h1;exact hc ((rN m h).2 ⟨h1,hm⟩)
   rw[this];rfl
theorem aEm{m:Bx}(hm:m.ok):kR woB [hdB h] [m]=some (if oG m h=true then []else [hdB h]):=by
 have hs:=sR (Jj ho);refine Di hs (sR hm) (by split;exact jP;exact hs) fun q hq=>?_;rw[nS,nS];cases hi:inK q 5 (hdB h)with
 |false=>
  split
  ·rfl
  ·rw[nS,hi];rfl
 |true=>
  have e:=uG 5 m (aO _) (aCi ho hi);rw[e];by_cases hc:oG m h=true
  ·rw[aH hc,lW,((rN m h).1 hc).1];rfl
  ·rw[aF hc,nS,hi];have:inK (hdQ h) 5 m=false:=by
    rw[bY];intro h1;exact hc ((rN m h).2 ⟨h1,hm⟩)
   rw[this];rfl
end
theorem aCW{op:Bool->Bool->Bool}(h0:∀b,op false b=false){m:Bx}(hm:m.ok):kR op [] [m]=some []:=Di jP (sR hm) jP fun q hq=>by rw[lW,h0]
theorem Uw{X:List Bx}(hX:jW X=true):kR orB X []=some X:=Di hX jP hX fun q hq=>by rw[lW,orB,fW]
theorem aCX{X:List Bx}(hX:jW X=true):kR orB [] X=some X:=Di jP hX hX fun q hq=>by rw[lW,orB,fG]
theorem Ww{x:Hi}(hx:x.ok){b:Bx}(hb:b.ok):(Jo x b).ok:=by
 obtain⟨_,h1,h2,h3,h4⟩:=hb;exact⟨⟨aCP _,(mkR x.addr x.addr).h1⟩,h1,h2,hx.2,h4⟩
theorem Wx(x:Hi):Jm x []=some []:=by
 have:jH orB 5 (([]:List Bx).map (Jo x)) []=[]:=rU orB rfl 5;unfold Jm;rw[this];rfl
theorem aHo{x:Hi}(hx:x.ok){b:Bx}(hb:b.ok):Jm x [b]=some [Jo x b]:=by
 have:jH orB 5 ([b].map (Jo x)) []=[Jo x b]:=by
  rw[aR,bI,Il (Ww hx hb) (aO _),rC]
 unfold Jm;rw[this];rfl
theorem Ra:∀{l:List Hi},(∀x,x∈l->x.ok)->∀{out:List Bx},jW out=true->wI l [] out=some ([],out)
 |[],_,out,_=>rfl
 |x::l,hl,out,ho=>by
  have hx:=hl x zx;rw[wI,aH hx,aCW (op:=anB) (fun _=>rfl) hx.1,aCW (op:=woB) (fun _=>rfl) hx.1];simp only[bU];rw[Wx,bU,Uw ho,bU];exact Ra (fun y hy=>hl y (aS _ hy)) ho
theorem T1{h:Hd}(hh:h.Ok):∀{l:List Hi},(∀x,x∈l->x.ok)->(∀x,x∈l->oG x.mt h=false)->∀{out:List Bx} (k:List Hi),jW out=true->wI (l++k) [hdB h] out=wI k [hdB h] out
 |[],_,_,out,k,_=>rfl
 |x::l,hl,hn,out,k,ho=>by
  have hx:=hl x zx;have hc:=hn x zx;rw[eW,wI,aH hx,Xh hh hx.1,aEm hh hx.1,hc];simp only[cK,if_false,bU];rw[Wx,bU,Uw ho,bU];exact T1 hh (fun y hy=>hl y (aS _ hy)) (fun y hy=>hn y (aS _ hy)) k ho
theorem aHj{h:Hd}(hh:h.Ok){l:List Hi}(hl:∀x,x∈l->x.ok):T0 l [hdB h]=some [match l.find? fun x=>oG x.mt h with
  |some x=>Jo x (hdB h)
  |none=>hdB h]:=by
 have hs:=sR (Jj hh);have hg:jK [hdB h]=([hdB h],0):=by unfold jK;rw[aH hs]
 unfold T0;rw[hg,aH rfl];cases hf:l.find? fun x=>oG x.mt h with
 |none=>
  have hn:∀x,x∈l->oG x.mt h=false:=fun x hx=>by
   have:=List.find?_eq_none.1 hf x hx;simpa using this
  have:=T1 hh hl hn [] jP;rw[bG]at this;rw[this];show(kR orB [] [hdB h])=_;rw[aCX hs]
 |some x=>
  obtain⟨hx,l1,l2,rfl,hn⟩:=List.find?_eq_some_iff_append.1 hf;have hxo:=hl x zx;rw[T1 hh (fun y hy=>hl y (by simp[hy])) (fun y hy=>by have:=hn y hy;simpa using this) (x::l2) jP,wI,aH hxo,Xh hh hxo.1,aEm hh hxo.1];have hx':oG x.mt h=true:=hx;rw[hx'];simp only[if_true,bU];have hi:=sR (Ww hxo (Jj hh));rw[aHo hxo (Jj hh),bU,aCX hi,bU,Ra (fun y hy=>hl y (by simp[hy])) hi,bU];exact Uw hi
/-! the hides of a group -/
def Ho(p:Int):Nat:=if p=6 then 0 else if p=17 then 1 else if p=1 then 2 else if p=0 then 3 else if p<=5 then 4 else if p<=16 then 5 else 6
theorem aRa{p:Int}(h0:0<=p)(h1:p<=255){n:Nat}(hn:n<7):inQ (protos.getD n zR) p=decide (n=Ho p):=by
 have io:∀a b:Int,0<=a->a<=255->0<=b->b<=255->inQ (mkR a b) p=(decide (a<=p)&&decide (p<=b)):=fun a b a0 a1 b0 b1=>by
  unfold inQ;rw[kI zo zo zo zo,kP zo zo zo zo]
 have key:∀a b:Int,0<=a->a<=255->0<=b->b<=255->((a<=p/\p<=b)↔n=Ho p)->inQ (mkR a b) p=decide (n=Ho p):=fun a b a0 a1 b0 b1 he=>by
  rw[io a b a0 a1 b0 b1,bK,aJ,aL,aL,aL];exact he
 have hp:Ho p=if p=6 then 0 else if p=17 then 1 else if p=1 then 2 else if p=0 then 3 else if p<=5 then 4 else if p<=16 then 5 else 6:=rfl
 match n,hn with
 |0,_=>exact key 6 6 zd zd zd zd (by rw[hp];exact⟨fun⟨a,b⟩=>(by(repeat' split)<;>omega),fun h=>(by(repeat' split at h)<;>omega)⟩)
 |1,_=>exact key 17 17 zd zd zd zd (by rw[hp];exact⟨fun⟨a,b⟩=>(by(repeat' split)<;>omega),fun h=>(by(repeat' split at h)<;>omega)⟩)
 |2,_=>exact key 1 1 zd zd zd zd (by rw[hp];exact⟨fun⟨a,b⟩=>(by(repeat' split)<;>omega),fun h=>(by(repeat' split at h)<;>omega)⟩)
 |3,_=>exact key 0 0 zd zd zd zd (by rw[hp];exact⟨fun⟨a,b⟩=>(by(repeat' split)<;>omega),fun h=>(by(repeat' split at h)<;>omega)⟩)
 |4,_=>exact key 2 5 zd zd zd zd (by rw[hp];exact⟨fun⟨a,b⟩=>(by(repeat' split)<;>omega),fun h=>(by(repeat' split at h)<;>omega)⟩)
 |5,_=>exact key 7 16 zd zd zd zd (by rw[hp];exact⟨fun⟨a,b⟩=>(by(repeat' split)<;>omega),fun h=>(by(repeat' split at h)<;>omega)⟩)
 |6,_=>exact key 18 255 zd zd zd zd (by rw[hp];exact⟨fun⟨a,b⟩=>(by(repeat' split)<;>omega),fun h=>(by(repeat' split at h)<;>omega)⟩)
theorem aEr(p:Int):Ho p<7:=by unfold Ho;(repeat' split)<;>omega
theorem Zx{n:Nat}(hn:n<7):(protos.getD n zR).okF 2:=by
 have h:∀k:Fin 7,(protos.getD k.val zR).lo<=(protos.getD k.val zR).hi/\(protos.getD k.val zR).hi<=255:=by decide+kernel
 exact h ⟨n,hn⟩
structure HnB (x:Hn):Prop where
 p0:x.ports.lo<=x.ports.hi
 p1:x.ports.hi<=65535
theorem aKL{x:Hn}(hx:HnB x){r:Rg}(hr:r.lo<=r.hi){n:Nat}(hn:n<7):(wH x r n).ok:=by
 have hh:=r.h1;have k1:(mkR 0 4294967295).okF 1:=⟨by decide,by decide⟩
 have k3:(mkR 0 65535).okF 3:=⟨by decide,by decide⟩
 have k4:(mkR 0 65535).okF 4:=⟨by decide,by decide⟩
 refine⟨⟨⟨hr,hh⟩,k1,Zx hn,k3,k4⟩,?_⟩;show(if n<3 then x.ports else zR).lo<=(if n<3 then x.ports else zR).hi/\(if n<3 then x.ports else zR).hi<=65535;split
 ·exact⟨hx.p0,hx.p1⟩
 ·decide
theorem aCl{x:Hn}(hx:HnB x){r:Rg}(hr:r.lo<=r.hi){n:Nat}(hn:n<7){h:Hd}(ho:h.Ok):oG (wH x r n).mt h=(inQ r h.src&&decide (n=Ho h.pro)):=by
 have hk:=(aKL hx hr hn).1;have e1:inQ (mkR 0 4294967295) h.dst=true:=by
  unfold inQ;rw[show(mkR 0 4294967295).lo=0 from rfl,show(mkR 0 4294967295).hi=4294967295 from rfl,decide_eq_true ho.d0,decide_eq_true ho.d1];rfl
 have e2:inQ (mkR 0 65535) h.sp=true:=by
  unfold inQ;rw[show(mkR 0 65535).lo=0 from rfl,show(mkR 0 65535).hi=65535 from rfl,decide_eq_true ho.a0,decide_eq_true ho.a1];rfl
 have e3:inQ (mkR 0 65535) h.dp=true:=by
  unfold inQ;rw[show(mkR 0 65535).lo=0 from rfl,show(mkR 0 65535).hi=65535 from rfl,decide_eq_true ho.b0,decide_eq_true ho.b1];rfl
 unfold oG;rw[decide_eq_true hk];show(inQ r h.src&&(inQ (mkR 0 4294967295) h.dst&&(inQ (protos.getD n zR) h.pro&&(inQ (mkR 0 65535) h.sp&&(inQ (mkR 0 65535) h.dp&&true)))))=_;rw[e1,e2,e3,aRa ho.p0 ho.p1 hn];simp
def aCn(x:Hn)(h:Hd):Bx:=⟨mkR x.addr x.addr,mkR h.dst h.dst,mkR h.pro h.pro,if h.pro=6\/h.pro=17\/h.pro=1 then x.ports else zR,mkR h.dp h.dp⟩
theorem aHi{x:Hn}(hx:HnB x){G:List Rg}(hG:∀r,r∈G->r.lo<=r.hi){h:Hd}(ho:h.Ok):T0 (G.flatMap (oI x)) [hdB h]=some [if has G h.src=true then aCn x h else hdB h]:=by
 have hmem:∀y,y∈G.flatMap (oI x)->∃r n,r∈G/\n<7/\y=wH x r n:=fun y hy=>by
  obtain⟨r,hr,hy⟩:=eA.1 hy;obtain⟨n,hn,rfl⟩:=bQ.1 hy;exact⟨r,n,hr,eG.1 hn,rfl⟩
 rw[aHj ho fun y hy=>by
  obtain⟨r,n,hr,hn,rfl⟩:=hmem y hy;exact aKL hx (hG r hr) hn]
 congr 2
 cases hf:(G.flatMap (oI x)).find? fun y=>oG y.mt h with
 |none=>
  have:has G h.src=false:=by
   rw[bY];intro hh;obtain⟨r,hr,h1,h2⟩:=has_iff.1 hh;have:=List.find?_eq_none.1 hf (wH x r (Ho h.pro)) (eA.2 ⟨r,hr,bQ.2 ⟨_,eG.2 (aEr _),rfl⟩⟩);rw[aCl hx (hG r hr) (aEr _) ho]at this;unfold inQ at this;rw[decide_eq_true h1,decide_eq_true h2]at this;simp at this
  rw[this];rfl
 |some y=>
  have h1:=List.find?_some hf;obtain⟨r,n,hr,hn,rfl⟩:=hmem y (List.mem_of_find?_eq_some hf);rw[aCl hx (hG r hr) hn ho,aJ,aL]at h1;obtain⟨h1,rfl⟩:=h1;unfold inQ at h1;rw[aJ,aL,aL]at h1;rw[aH (has_iff.2 ⟨r,hr,h1.1,h1.2⟩)];have hc:(if Ho h.pro<3 then x.ports else zR)=(if h.pro=6\/h.pro=17\/h.pro=1 then x.ports else zR):=by
   have:Ho h.pro<3↔(h.pro=6\/h.pro=17\/h.pro=1):=by
    unfold Ho;exact⟨fun h=>(by(repeat' split at h)<;>omega),fun h=>(by(repeat' split)<;>omega)⟩
   by_cases hp:Ho h.pro<3
   ·rw[aH hp,aH (this.1 hp)]
   ·rw[aF hp,aF (fun h=>hp (this.2 h))]
  unfold aCn;rw[<-hc];rfl
theorem aBx(l:List Bx):(kX l).2=0\/(kX l).2=3:=by
 have:∀(l s:List Bx),(kO s l).2=0\/(kO s l).2=3:=by
  intro l
  induction l with
  |nil=>intro s;exact .inl rfl
  |cons b l ih=>
   intro s;rw[kO];split
   ·split
    ·exact .inr rfl
    ·exact ih _
   ·exact ih _
 exact this l []
theorem Hw(l:List Bx):(jK l).2=0\/(jK l).2=3:=by
 unfold jK;split
 ·exact .inl rfl
 ·exact aBx l
theorem aBw(op:Bool->Bool->Bool)(a b:List Bx):(iP op a b).2=0\/(iP op a b).2=3:=by
 unfold iP;split
 ·rename_i h;rcases Hw a with h1|h1
  ·exact absurd h1 h
  ·exact .inr h1
 ·split
  ·rename_i h;rcases Hw b with h1|h1
   ·exact absurd h1 h
   ·exact .inr h1
  ·simp only[pM];split
   ·exact .inr rfl
   ·exact .inl rfl
def kN(e:Int)(r:List Bx×Int):List Bx×Int:=if e≠0 then([],e)else if r.2≠0 then([],r.2)else(r.1,0)
def opK(op:Bool->Bool->Bool)(e:Int)(a b:List Bx):List Bx×Int:=kN e (iP op a b)
theorem Mm(op:Bool->Bool->Bool)(a b:List Bx):opK op 3 a b=([],3):=rfl
theorem nI{op:Bool->Bool->Bool}{a b s:List Bx}(h:kR op a b=some s):opK op 0 a b=(s,0):=by
 obtain⟨h1,rfl⟩:=mO h;unfold opK kN;rw[aF (fun h=>h rfl),aF (fun h=>h h1)]
theorem nH{op:Bool->Bool->Bool}{a b:List Bx}(h:kR op a b=none):opK op 0 a b=([],3):=by
 unfold kR at h;split at h
 ·cases h
 ·rename_i h1;unfold opK kN;rw[aF (fun h=>h rfl),aH h1];rcases aBw op a b with h2|h2
  ·exact absurd h2 h1
  ·rw[h2]
theorem tC(op:Bool->Bool->Bool)(e:Int)(a b:List Bx):jW (opK op e a b).1=true:=by
 unfold opK kN;split
 ·exact jP
 ·split
  ·exact jP
  ·exact jV op a b
theorem xW(op:Bool->Bool->Bool)(e:Int)(a b:List Bx):(opK op e a b).1.length<=4096:=(kU (tC op e a b)).len
def K2(to:List Bx)(m:Mv)(s:List Bx×List Bx×Int):List Bx×List Bx×Int:=
 if m.ok then((opK orB (opK anB (opK anB (opK anB s.2.2 s.2.1 [m.frm]).2 to [m.to]).2 (opK anB s.2.2 s.2.1 [m.frm]).1 (shL m.turn (opK anB (opK anB s.2.2 s.2.1 [m.frm]).2 to [m.to]).1)).2 s.1 (opK anB (opK anB (opK anB s.2.2 s.2.1 [m.frm]).2 to [m.to]).2 (opK anB s.2.2 s.2.1 [m.frm]).1 (shL m.turn (opK anB (opK anB s.2.2 s.2.1 [m.frm]).2 to [m.to]).1)).1).1,
  (opK woB (opK orB (opK anB (opK anB (opK anB s.2.2 s.2.1 [m.frm]).2 to [m.to]).2 (opK anB s.2.2 s.2.1 [m.frm]).1 (shL m.turn (opK anB (opK anB s.2.2 s.2.1 [m.frm]).2 to [m.to]).1)).2 s.1 (opK anB (opK anB (opK anB s.2.2 s.2.1 [m.frm]).2 to [m.to]).2 (opK anB s.2.2 s.2.1 [m.frm]).1 (shL m.turn (opK anB (opK anB s.2.2 s.2.1 [m.frm]).2 to [m.to]).1)).1).2 s.2.1 [m.frm]))
 else s
def Ka(to:List Bx)(l:List Mv)(s:List Bx×List Bx×Int):List Bx×List Bx×Int:=l.foldl (fun s m=>K2 to m s) s
theorem aQY(to:List Bx)(m:Mv)(o r:List Bx):(K2 to m (o,r,3)).2.2=3:=by
 unfold K2;split<;>rfl
theorem zL(to:List Bx):∀(l:List Mv) (s:List Bx×List Bx×Int),s.2.2=3->(Ka to l s).2.2=3
 |[],s,h=>h
 |m::l,(o,r,e),h=>by
  simp only at h;subst h;exact zL to l _ (aQY to m o r)
theorem O9(to:List Bx):∀(l:List Mv) (o r:List Bx),(∀x,vI to l r o=some x->Ka to l (o,r,0)=(x.2,x.1,0))/\(vI to l r o=none->(Ka to l (o,r,0)).2.2=3)
 |[],o,r=>⟨fun x h=>by simp only[vI,bN]at h;subst h;rfl,fun h=>by simp[vI]at h⟩
 |m::l,o,r=>by
  have hs:Ka to (m::l) (o,r,0)=Ka to l (K2 to m (o,r,0)):=rfl;rw[hs,vI];split;case isFalse hm=>
   unfold K2;rw[aF hm];exact O9 to l o r
  case isTrue hm=>
   unfold K2;simp only[aH hm];cases h1:kR anB r [m.frm]with
   |none=>
    simp only[nH h1,eC,Mm];exact⟨fun x h=>(by cases h),fun _=>zL to l _ rfl⟩
   |some p=>
    simp only[nI h1,bU];cases h2:kR anB to [m.to]with
    |none=>
     simp only[nH h2,eC,Mm];exact⟨fun x h=>(by cases h),fun _=>zL to l _ rfl⟩
    |some i=>
     simp only[nI h2,bU];cases h3:kR anB p (shL m.turn i)with
     |none=>
      simp only[nH h3,eC,Mm];exact⟨fun x h=>(by cases h),fun _=>zL to l _ rfl⟩
     |some k=>
      simp only[nI h3,bU];cases h4:kR orB o k with
      |none=>
       simp only[nH h4,eC,Mm];exact⟨fun x h=>(by cases h),fun _=>zL to l _ rfl⟩
      |some o'=>
       simp only[nI h4,bU];cases h5:kR woB r [m.frm]with
       |none=>
        simp only[nH h5,eC];exact⟨fun x h=>(by cases h),fun _=>zL to l _ rfl⟩
       |some r'=>
        simp only[nI h5,bU];exact O9 to l o' r'
def aFJ(to:List Bx)(s:List Bx×List Bx×Int):List Bx×Int:=opK orB (opK anB s.2.2 s.2.1 to).2 s.1 (opK anB s.2.2 s.2.1 to).1
def K1(l:List Mv)(s:List Bx):List Bx×Int:=aFJ (kN 0 (jK s)).1 (Ka (kN 0 (jK s)).1 l ([],[fullB],(kN 0 (jK s)).2))
theorem aJv(l:List Mv)(s:List Bx):K1 l s=Se (preO l s):=by
 unfold K1 preO;have h3:∀to s,s.2.2=3->aFJ to s=([],3):=fun to s h=>by
  obtain⟨o,r,e⟩:=s;simp only at h;subst h;rfl
 by_cases hg:(jK s).2=0
 ·have hk:kN 0 (jK s)=((jK s).1,0):=by unfold kN;rw[aF (fun h=>h rfl),aF (fun h=>h hg)]
  rw[aH hg,hk];obtain⟨e1,e2⟩:=O9 (jK s).1 l [] [fullB];simp only;cases hp:vI (jK s).1 l [fullB] []with
  |none=>rw[h3 _ _ (e2 hp)];rfl
  |some x=>
   rw[e1 x hp,bU];unfold aFJ;simp only;cases h1:kR anB x.1 (jK s).1 with
   |none=>rw[nH h1];rfl
   |some k=>
    rw[nI h1,bU];simp only;cases h2:kR orB x.2 k with
    |none=>rw[nH h2];rfl
    |some z=>rw[nI h2];rfl
 ·have hk:kN 0 (jK s)=([],3):=by
   unfold kN;rw[aF (fun h=>h rfl),aH hg];rcases Hw s with h|h
   ·exact absurd h hg
   ·rw[h]
  rw[aF hg,hk,h3 _ _ (zL _ _ _ rfl)];rfl
def F5(m:Mv)(s:List Bx×Int):List Bx×Int:=if m.ok then opK woB s.2 s.1 [m.to]else s
def Hq(l:List Mv)(s:List Bx×Int):List Bx×Int:=l.foldl (fun s m=>F5 m s) s
theorem U5:∀(l:List Mv),Hq l ([],3)=([],3)
 |[]=>rfl
 |m::l=>by
  show Hq l (F5 m ([],3))=_;have:F5 m ([],3)=([],3):=by unfold F5;split<;>rfl
  rw[this];exact U5 l
theorem Pj:∀(l:List Mv) (s:List Bx),Hq l (s,0)=Se (wW l s)
 |[],s=>rfl
 |m::l,s=>by
  show Hq l (F5 m (s,0))=_;rw[wW];unfold F5;split;case isFalse=>exact Pj l s
  case isTrue=>
   cases h:kR woB s [m.to]with
   |none=>simp only[nH h,eC];exact U5 l
   |some s'=>simp only[nI h,bU];exact Pj l s'
theorem aJL(l:List Mv)(s:List Bx):Hq l (K1 l s)=Se (G7 l s):=by
 rw[aJv];unfold G7;cases preO l s with
 |none=>exact U5 l
 |some x=>exact Pj l x
theorem aJK{l:List Mv}{k:Nat}{m:Mv}(h:l[k]? =some m)(s:List Bx×Int):Hq (l.drop k) s=Hq (l.drop (k+1)) (F5 m s):=by
 have hk:=(aP.1 h).1;have e:l[k]=m:=(aP.1 h).2;rw[bA hk,e];rfl
theorem aJu(to:List Bx){l:List Mv}{k:Nat}{m:Mv}(h:l[k]? =some m)(s:List Bx×List Bx×Int):Ka to (l.drop k) s=Ka to (l.drop (k+1)) (K2 to m s):=by
 have hk:=(aP.1 h).1;have e:l[k]=m:=(aP.1 h).2;rw[bA hk,e];rfl
/-! hides -/
def Q1(l:List Bx):List Bx×Int:=if(jK l).2≠0 then([],(jK l).2)else(nZ (jH orB 5 ((jK l).1.map fun b=>b.put 0 top0) []),pM (jH orB 5 ((jK l).1.map fun b=>b.put 0 top0) []))
def wD(e:Int)(l:List Bx):List Bx×Int:=kN e (Q1 l)
def Kw(x:Hi)(e:Int)(p:List Bx):List Bx×Int:=((wD e (lU x 0 p)).1.map fun b=>b.put 0 (mkR x.addr x.addr),(wD e (lU x 0 p)).2)
theorem aHn{x:Hi}(hx:x.ok){p:List Bx}(hp:jW p=true):Kw x 0 p=match Jm x p with
  |some s=>(s,0)
  |none=>([],3):=by
 have hl:=(kU hp).len;have hs:=aAj hx (l:=p) (fun b hb=>aEj (rR hp) b hb) hl;have hg:jK (lU x 0 p)=(lU x 0 p,0):=by unfold jK;rw[aH hs]
 have hf:=aCt x p;unfold Kw wD Q1 Jm;rw[hg];simp only;rw[aF (fun h=>h rfl),hf,aA];generalize jH orB 5 ((lU x 0 p).map fun b=>b.put 0 top0) []=c;by_cases h:4096<c.length
 ·have e1:nZ c=[]:=by unfold nZ;rw[aH h]
  have e2:pM c=3:=by unfold pM;rw[aH h]
  rw[e1,e2,aF (show ¬c.length<=4096 by omega)];rfl
 ·have e1:nZ c=c:=by unfold nZ;rw[aF h]
  have e2:pM c=0:=by unfold pM;rw[aF h]
  rw[e1,e2,aH (show c.length<=4096 by omega)];rfl
def Hm(x:Hi)(s:List (List Bx)×List Bx×Int):List (List Bx)×List Bx×Int:=
 if x.ok then(s.1++[(opK anB s.2.2 s.2.1 [x.mt]).1],opK woB (opK anB s.2.2 s.2.1 [x.mt]).2 s.2.1 [x.mt])else(s.1++[[]],s.2)
def rS(l:List Hi)(s:List (List Bx)×List Bx×Int):List (List Bx)×List Bx×Int:=l.foldl (fun s m=>Hm m s) s
theorem aQV(x:Hi)(o:List (List Bx))(r:List Bx):(Hm x (o,r,3)).2.2=3:=by
 unfold Hm;split<;>rfl
theorem O6:∀(l:List Hi) (s:List (List Bx)×List Bx×Int),s.2.2=3->(rS l s).2.2=3
 |[],s,h=>h
 |x::l,(o,r,e),h=>by
  simp only at h;subst h;exact O6 l _ (aQV x o r)
theorem O7:∀(l:List Hi) (ps:List (List Bx)) (r:List Bx),(∀y,qZ l r=some y->rS l (ps,r,0)=(ps++y.1,y.2,0))/\(qZ l r=none->(rS l (ps,r,0)).2.2=3)
 |[],ps,r=>⟨fun y h=>by simp only[qZ,bN]at h;subst h;simp[rS],fun h=>by simp[qZ]at h⟩
 |x::l,ps,r=>by
  have hs:rS (x::l) (ps,r,0)=rS l (Hm x (ps,r,0)):=rfl;rw[hs,qZ];unfold Hm;split;case isTrue hx=>
   simp only;cases h1:kR anB r [x.mt]with
   |none=>
    simp only[nH h1,eC,Mm];exact⟨fun y h=>(by cases h),fun _=>O6 l _ rfl⟩
   |some p=>
    simp only[nI h1,bU];cases h2:kR woB r [x.mt]with
    |none=>
     simp only[nH h2,eC];exact⟨fun y h=>(by cases h),fun _=>O6 l _ rfl⟩
    |some r'=>
     simp only[nI h2,bU];obtain⟨e1,e2⟩:=O7 l (ps++[p]) r';cases h3:qZ l r' with
     |none=>exact⟨fun y h=>(by cases h),fun _=>e2 h3⟩
     |some z=>exact⟨fun y h=>by cases h;rw[e1 z h3];simp,fun h=>by cases h⟩
  case isFalse hx=>
   simp only;obtain⟨e1,e2⟩:=O7 l (ps++[[]]) r;cases h3:qZ l r with
   |none=>exact⟨fun y h=>(by cases h),fun _=>e2 h3⟩
   |some z=>exact⟨fun y h=>by cases h;rw[e1 z h3];simp,fun h=>by cases h⟩
def Ol(x:Hi)(p:List Bx)(s:List Bx×Int):List Bx×Int:=if x.ok then opK orB (Kw x s.2 p).2 s.1 (Kw x s.2 p).1 else s
def wK:List Hi->List (List Bx)->List Bx×Int->List Bx×Int
 |x::l,p::ps,s=>wK l ps (Ol x p s)
 |_,_,s=>s
theorem aOz(x:Hi)(p o:List Bx):(Ol x p (o,3)).2=3:=by
 unfold Ol;split<;>rfl
theorem Jl:∀(l:List Hi) (ps:List (List Bx)) (s:List Bx×Int),s.2=3->(wK l ps s).2=3
 |[],ps,s,h=>by simpa[wK]using h
 |x::l,[],s,h=>by simpa[wK]using h
 |x::l,p::ps,(o,e),h=>by
  simp only at h;subst h;exact Jl l ps _ (aOz x p o)
theorem Wv:∀(l:List Hi) (ps:List (List Bx)) (o:List Bx),(∀p,p∈ps->jW p=true)->(∀s,uF l ps o=some s->wK l ps (o,0)=(s,0))/\(uF l ps o=none->(wK l ps (o,0)).2=3)
 |[],ps,o,_=>⟨fun s h=>by simp only[uF,bN]at h;subst h;simp[wK],fun h=>by simp[uF]at h⟩
 |x::l,[],o,_=>⟨fun s h=>by simp only[uF,bN]at h;subst h;simp[wK],fun h=>by simp[uF]at h⟩
 |x::l,p::ps,o,hp=>by
  have hs:wK (x::l) (p::ps) (o,0)=wK l ps (Ol x p (o,0)):=rfl;rw[hs,uF];unfold Ol;have ih:=fun o=>Wv l ps o fun q hq=>hp q (aS _ hq);split;case isFalse hx=>exact ih o
  case isTrue hx=>
   simp only;have hi:=aHn hx (hp p zx);rw[hi];cases h1:Jm x p with
   |none=>
    simp only[eC,Mm];exact⟨fun s h=>(by cases h),fun _=>Jl l ps _ rfl⟩
   |some img=>
    simp only[bU];cases h2:kR orB o img with
    |none=>
     simp only[nH h2,eC];exact⟨fun s h=>(by cases h),fun _=>Jl l ps _ rfl⟩
    |some o'=>
     simp only[nI h2,bU];exact ih o'
theorem O8:∀{l:List Hi} {r:List Bx} {y:List (List Bx)×List Bx},qZ l r=some y->∀p,p∈y.1->jW p=true
 |[],r,y,h,p,hp=>by simp only[qZ,bN]at h;subst h;cases hp
 |x::l,r,y,h,p,hp=>by
  rw[qZ]at h;split at h
  ·obtain⟨part,h1,h⟩:=cI.1 h;obtain⟨rest',_,h⟩:=cI.1 h;obtain⟨z,h3,h⟩:=cI.1 h;cases h;rcases aZ.1 hp with rfl|hp
   ·obtain⟨_,rfl⟩:=mO h1;exact jV ..
   ·exact O8 h3 p hp
  ·obtain⟨z,h1,h⟩:=cI.1 h;cases h;rcases aZ.1 hp with rfl|hp
   ·exact jP
   ·exact O8 h1 p hp
def aCp(l:List Hi)(s:List Bx):List Bx×Int:=
 let q:=rS l ([],(kN 0 (jK s)).1,(kN 0 (jK s)).2)
 opK orB (wK l q.1 ([],q.2.2)).2 (wK l q.1 ([],q.2.2)).1 q.2.1
theorem aHk(l:List Hi)(s:List Bx):aCp l s=Se (T0 l s):=by
 unfold aCp T0;have h3:∀q:List Bx×Int,q.2=3->∀r,opK orB q.2 q.1 r=([],3):=fun q h r=>by rw[h];rfl
 by_cases hg:(jK s).2=0
 ·have hk:kN 0 (jK s)=((jK s).1,0):=by unfold kN;rw[aF (fun h=>h rfl),aF (fun h=>h hg)]
  rw[aH hg,hk,H0];obtain⟨e1,e2⟩:=O7 l [] (jK s).1;simp only;cases hp:qZ l (jK s).1 with
  |none=>
   have:=e2 hp;rw[h3 _ (Jl l _ ([],(rS l ([],(jK s).1,0)).2.2) this)];rfl
  |some y=>
   rw[e1 y hp];simp only[dB,bU];obtain⟨f1,f2⟩:=Wv l y.1 [] (O8 hp);cases hi:uF l y.1 []with
   |none=>rw[h3 _ (f2 hi)];rfl
   |some o=>
    rw[f1 o hi];simp only[bU];cases h2:kR orB o y.2 with
    |none=>rw[nH h2];rfl
    |some z=>rw[nI h2];rfl
 ·have hk:kN 0 (jK s)=([],3):=by
   unfold kN;rw[aF (fun h=>h rfl),aH hg];rcases Hw s with h|h
   ·exact absurd h hg
   ·rw[h]
  rw[aF hg,hk];simp only;rw[h3 _ (Jl l _ ([],(rS l ([],[],3)).2.2) (O6 l ([],[],3) rfl))];rfl
def aMU:Ctx:={N:=22,np:=1}
abbrev aHU:=ofD aMU Tryz.func213
def aMV:Ctx:={N:=14,np:=1,own:=oz [213]}
abbrev aHV:=ofD aMV Tryz.func130
def aTI:Ctx:={N:=14,np:=1,own:=oz [213]}
abbrev aPF:=ofD aTI Tryz.func135
def aTw:Ctx:={N:=14,np:=1,own:=oz [213]}
abbrev aPt:=ofD aTw Tryz.func132
def aTF:Ctx:={N:=17,np:=1,own:=oz [215],plan:=p1 2 (lo 6) pn}
abbrev aPC:=ofD aTF Tryz.func137
def aTG:Ctx:={N:=69,own:=oz [215],plan:=p1 8 (lp 22 [44]) (p1 9 (lp 22 [44]) pn)}
abbrev aPD:=ofD aTG Tryz.func133
def aTH:Ctx:={N:=8}
abbrev aPE:=ofD aTH Tryz.func134
def aTD:Ctx:={N:=59,own:=oz [130,135,132,136,137],plan:=p1 10 (lz [1,3,7,9,11] (.alt 2 (ln [12,14,16,18,21]) (.alt 6 (ln [4,14,16,18,21]) Ab))) pn,hints:=h1 5 [.asL 8,.freeze 9] hn}
abbrev aPA:=ofD aTD Tryz.func77
def aMZ:Ctx:={N:=40}
abbrev aHZ:=ofD aMZ Tryz.func28
def aTp:Ctx:={N:=8,res:=true}
abbrev aPm:=ofD aTp Tryz.func215
def aMR:Ctx:={N:=14,np:=2,own:=oz [213],out:=true}
abbrev aHR:=ofD aMR Tryz.func132
def aNa:Ctx:={N:=14,np:=2,own:=oz [213],out:=true}
abbrev aIa:=ofD aNa Tryz.func136
abbrev oN(e:Int):Vm.Obj:=.box [.v (.int .i64 e)]
theorem aHw{l:List Bx}(h:pM l≠0):nZ l=[]:=by
 unfold nZ;rw[aH (limE_ne.1 h)]
theorem aAO{op:Bool->Bool->Bool}{a b:List Bx}(h:(iP op a b).2≠0):(iP op a b).1=[]:=by
 unfold iP at h⊢;split
 ·rfl
 ·split
  ·rfl
  ·rename_i h1 h2;rw[aF h1,aF h2]at h;exact aHw h
theorem Ma(l:List Bx)(hl:l.length<1000000000){K:KT}(hK0:l=[]->K .nils [])(hK:K (.os 0 10 0 l.length) [.arr 10 (l.map iV)]):AC 215 [iN l] [] K:=by
 refine aPm rfl rfl ?_;have e:0+(l.map iV).length=l.length:=by rw[aA];omega
 have hK':K (.os 0 10 0 (0+(l.map iV).length)) [.arr 10 (l.map iV)]:=by rw[e];exact hK
 (repeat' ((conv=>whnf);first|refine zG ?_|apply zA|intro h|exact zT));all_goals conv=>whnf
 all_goals first
  |exact hK'
  |exact hK0 ((fO (f:=iV)).1 (by simp_all))
  |skip
 all_goals
  intro b hb;(repeat' ((conv=>whnf);first|refine zG ?_|apply zA|intro h|exact zT));all_goals conv=>whnf
  all_goals first
   |exact hK'
   |exact hK0 ((fO (f:=iV)).1 (by simp_all))
theorem Fp(e:Int)(l:List Bx)(r:Int){K:KT}(hK:K (iN (kN e (l,r)).1) [oN (kN e (l,r)).2]):AC 213 [.op 0 0,iN l,.v (.int .i64 r)] [oN e] K:=by
 refine hJ (aHU rfl rfl ?_);unfold kN at hK;by_cases h0:e=0
 ·subst h0;rw[aF (fun h=>h rfl)]at hK;by_cases h1:r=0
  ·subst h1;rw[aF (fun h=>h rfl)]at hK;(repeat' ((conv=>whnf);first|refine zG ?_|apply zA|intro h|exact zT));all_goals conv=>whnf
   all_goals first
    |exact⟨_,gY,hK⟩
    |(exfalso;omega)
  ·rw[aH h1]at hK;(repeat' ((conv=>whnf);first|refine zG ?_|apply zA|intro h|exact zT));all_goals conv=>whnf
   all_goals first
    |exact⟨_,hZ,hK⟩
    |(exfalso;omega)
 ·rw[aH h0]at hK;(repeat' ((conv=>whnf);first|refine zG ?_|apply zA|intro h|exact zT));all_goals conv=>whnf
  all_goals first
   |exact⟨_,hZ,hK⟩
   |(exfalso;omega)
theorem aCG(e:Int)(l:List Bx)(hl:l.length<1000000000)(he:e=0){K:KT}(hK:K (iN (kN e (jK l)).1) [oN (kN e (jK l)).2]):AC 130 [.op 0 0,iN l] [oN e] K:=by
 refine hJ (aHV rfl rfl ?_);subst he;by_cases hs:jW l=true
 ·have hv:∀{K:KT},K (.sb true) []->AC 212 [iN l] [] K:=fun h=>Th l hl (by rw[hs];exact h);have hk:kN 0 (jK l)=(l,0):=by unfold jK kN;rw[aH hs];rfl
  rw[hk]at hK;(repeat' ((conv=>whnf);first|(with_reducible refine hv ?_)|refine zG ?_|apply zA|intro h|exact zT));all_goals conv=>whnf
  all_goals exact⟨_,gY,hK⟩
 ·have hv:∀{K:KT},K (.sb false) []->AC 212 [iN l] [] K:=fun h=>Th l hl (by rw[bY.2 hs];exact h);have hg:jK l=kX l:=by unfold jK;rw[aF hs]
  rw[hg]at hK;have hm:=fun {K}=>@Tg l hl K;clear hg;generalize kX l=q at*;obtain⟨s,r⟩:=q;simp only at hm hK;(repeat' ((conv=>whnf);first|(with_reducible first|refine hv ?_|refine hm ?_|refine Fp 0 s r ?_)|refine zG ?_|apply zA|intro h|exact zT));all_goals conv=>whnf
  all_goals exact⟨_,gY,hK⟩
theorem W6(e:Int)(a b:List Bx)(ha:a.length<1000000000)(hb:b.length<1000000000){K:KT}(hK:K (iN (opK orB e a b).1) [oN (opK orB e a b).2]):AC 135 [.op 0 0,iN a,iN b] [oN e] K:=by
 refine hJ (aPF rfl rfl ?_);unfold opK at hK;have hm:=fun {K}=>@aSy a b ha hb K;generalize iP orB a b=q at*;obtain⟨s,r⟩:=q;simp only at hm;(repeat' ((conv=>whnf);first|(with_reducible first|refine hm ?_|refine Fp e s r ?_)|refine zG ?_|apply zA|intro h|exact zT));all_goals conv=>whnf
 exact⟨_,gY,hK⟩
theorem aKP(e:Int)(a b:List Bx)(ha:a.length<1000000000)(hb:b.length<1000000000){K:KT}(hK:K (iN (opK anB e a b).1) [oN (opK anB e a b).2]):AC 132 [.op 0 0,iN a,iN b] [oN e] K:=by
 refine hJ (aPt rfl rfl ?_);unfold opK at hK;have hm:=fun {K}=>@V5 a b ha hb K;generalize iP anB a b=q at*;obtain⟨s,r⟩:=q;simp only at hm;(repeat' ((conv=>whnf);first|(with_reducible first|refine hm ?_|refine Fp e s r ?_)|refine zG ?_|apply zA|intro h|exact zT));all_goals conv=>whnf
 exact⟨_,gY,hK⟩
theorem Uc(e:Int)(a:List Bx)(b:Bx)(ha:a.length<1000000000){K:KT}(hK:K (iN (opK anB e a [b]).1) [oN (opK anB e a [b]).2,.box []]):AC 132 [.op 0 0,iN a,.os 1 10 0 1] [oN e,.arr 10 [iV b]] K:=by
 refine hJ (aHR rfl rfl ?_);unfold opK at hK;have hm:∀{K:KT},K (.tup [iN (iP anB a [b]).1,.v (.int .i64 (iP anB a [b]).2)]) []->AC 192 [iN a,.lst [iV b]] [] K:=fun h=>V5 a [b] ha zx h;generalize iP anB a [b]=q at*;obtain⟨s,r⟩:=q;simp only at hm;(repeat' ((conv=>whnf);first|(with_reducible first|refine hm ?_|refine Fp e s r ?_)|(refine iE (ys:=[iV b]) (aO _) rfl ?_)|refine zG ?_|apply zA|intro h|exact zT));all_goals conv=>whnf
 exact⟨_,gY,hK⟩
theorem aCI(e:Int)(a:List Bx)(b:Bx)(ha:a.length<1000000000){K:KT}(hK:K (iN (opK woB e a [b]).1) [oN (opK woB e a [b]).2,.box []]):AC 136 [.op 0 0,iN a,.os 1 10 0 1] [oN e,.arr 10 [iV b]] K:=by
 refine hJ (aIa rfl rfl ?_);unfold opK at hK;have hm:∀{K:KT},K (.tup [iN (iP woB a [b]).1,.v (.int .i64 (iP woB a [b]).2)]) []->AC 78 [iN a,.lst [iV b]] [] K:=fun h=>aBj a [b] ha zx h;generalize iP woB a [b]=q at*;obtain⟨s,r⟩:=q;simp only at hm;(repeat' ((conv=>whnf);first|(with_reducible first|refine hm ?_|refine Fp e s r ?_)|(refine iE (ys:=[iV b]) (aO _) rfl ?_)|refine zG ?_|apply zA|intro h|exact zT));all_goals conv=>whnf
 exact⟨_,gY,hK⟩
theorem aKR(e:Int)(l:List Bx)(hl:l.length<1000000000){K:KT}(hK:K (.tup [iN (if e≠0 then []else l),.v (.int .i64 e)]) [oN e]):AC 137 [.op 0 0,iN l] [oN e] K:=by
 refine hJ (aPC rfl rfl ?_);by_cases h0:e=0
 case neg=>
  rw[aH h0]at hK;(repeat' ((conv=>whnf);first|refine zG ?_|apply zA|intro h|exact zT));all_goals conv=>whnf
  all_goals first
   |exact⟨_,hU hZ gY,hK⟩
   |(exfalso;omega)
 subst h0;rw[aF (fun h=>h rfl)]at hK;(repeat' ((conv=>whnf);first|refine zG ?_|apply zA|intro h|exact zT));all_goals conv=>whnf
 all_goals first
  |(exfalso;omega)
  |skip
 refine Ma l hl (fun e=>?_) ?_
 ·subst e;(repeat' ((conv=>whnf);first|refine zG ?_|apply zA|intro h|exact zT));all_goals conv=>whnf
  exact⟨_,hU hZ gY,hK⟩
 ·(repeat' ((conv=>whnf);first|(with_reducible refine iT zx ?_)|refine zG ?_|apply zA|intro h|exact zT));all_goals conv=>whnf
  exact⟨_,gY,hK⟩
theorem aVy(m:Mv){K:KT}(hK:K (nR m.turn) []):AC 134 [nR m] [] K:=by
 refine aPE rfl rfl ?_;(repeat' ((conv=>whnf);first|refine zG ?_|apply zA|intro h|exact zT));all_goals conv=>whnf
 all_goals exact hK
theorem aJO{m:Mv}(hm:m.ok){x:Bx}(hx:inX m.frm x):iV (shX m.frm m.to x)=.agg [.v (.int .u32 (m.to.r0.lo+(x.r0.lo-m.frm.r0.lo))),.v (.int .u32 (m.to.r0.lo+(x.r0.hi-m.frm.r0.lo))),.v (.int .u32 (m.to.r1.lo+(x.r1.lo-m.frm.r1.lo))),.v (.int .u32 (m.to.r1.lo+(x.r1.hi-m.frm.r1.lo))),.v (.int .u32 (m.to.r2.lo+(x.r2.lo-m.frm.r2.lo))),.v (.int .u32 (m.to.r2.lo+(x.r2.hi-m.frm.r2.lo))),.v (.int .u32 (m.to.r3.lo+(x.r3.lo-m.frm.r3.lo))),.v (.int .u32 (m.to.r3.lo+(x.r3.hi-m.frm.r3.lo))),.v (.int .u32 (m.to.r4.lo+(x.r4.lo-m.frm.r4.lo))),.v (.int .u32 (m.to.r4.lo+(x.r4.hi-m.frm.r4.lo)))]:=by
 obtain⟨i0,i1,i2,i3,i4⟩:=hx;obtain⟨_,k0,k1,k2,k3,k4⟩:=hm;obtain⟨a0,b0⟩:=zP k0 i0;obtain⟨a1,b1⟩:=zP k1 i1;obtain⟨a2,b2⟩:=zP k2 i2;obtain⟨a3,b3⟩:=zP k3 i3;obtain⟨a4,b4⟩:=zP k4 i4;show AV.agg [.v (.int .u32 (shR m.frm.r0 m.to.r0 x.r0).lo),.v (.int .u32 (shR m.frm.r0 m.to.r0 x.r0).hi),.v (.int .u32 (shR m.frm.r1 m.to.r1 x.r1).lo),.v (.int .u32 (shR m.frm.r1 m.to.r1 x.r1).hi),.v (.int .u32 (shR m.frm.r2 m.to.r2 x.r2).lo),.v (.int .u32 (shR m.frm.r2 m.to.r2 x.r2).hi),.v (.int .u32 (shR m.frm.r3 m.to.r3 x.r3).lo),.v (.int .u32 (shR m.frm.r3 m.to.r3 x.r3).hi),.v (.int .u32 (shR m.frm.r4 m.to.r4 x.r4).lo),.v (.int .u32 (shR m.frm.r4 m.to.r4 x.r4).hi)]=_;rw[a0,a1,a2,a3,a4,b0,b1,b2,b3,b4]
abbrev aRF(m:Mv):Vm.Obj:=.box [.v (.int .u32 m.frm.r0.lo),.v (.int .u32 m.frm.r0.hi),.v (.int .u32 m.frm.r1.lo),.v (.int .u32 m.frm.r1.hi),.v (.int .u32 m.frm.r2.lo),.v (.int .u32 m.frm.r2.hi),.v (.int .u32 m.frm.r3.lo),.v (.int .u32 m.frm.r3.hi),.v (.int .u32 m.frm.r4.lo),.v (.int .u32 m.frm.r4.hi),.v (.int .u32 m.to.r0.lo),.v (.int .u32 m.to.r0.hi),.v (.int .u32 m.to.r1.lo),.v (.int .u32 m.to.r1.hi),.v (.int .u32 m.to.r2.lo),.v (.int .u32 m.to.r2.hi),.v (.int .u32 m.to.r3.lo),.v (.int .u32 m.to.r3.hi),.v (.int .u32 m.to.r4.lo),.v (.int .u32 m.to.r4.hi)]
theorem aVx(m:Mv)(hm:m.ok)(l:List Bx)(hl:l.length<1000000000)(hin:∀x,x∈l->inX m.frm x){K:KT}(hK:K (iN (shL m l)) []):AC 133 [nR m,iN l] [] K:=by
 refine hJ (aPD rfl rfl ?_);(repeat' ((conv=>whnf);first|refine zG ?_|apply zA|intro h|exact zT));all_goals conv=>whnf
 refine Ma l hl (fun e=>?_) ?_
 ·subst e;(repeat' ((conv=>whnf);first|(with_reducible refine Lp.times 1 ?_)|refine zG ?_|apply zA|intro h|exact zT));all_goals conv=>whnf
  exact⟨_,hZ,hK⟩
 ·(repeat' ((conv=>whnf);first|refine zG ?_|apply zA|intro h|exact zT));all_goals conv=>whnf
  refine gV Nat (fun i=>⟨2,[(0,aRF m),(1,.arr 10 (((l.take i).map (shX m.frm m.to)++l.drop i).map iV))],[(1,iN l),(2,.op 0 0),(5,.os 1 10 0 l.length),(12,.v (.int .i64 l.length)),(13,.v (.int .i64 i))]⟩) (fun i=>i<=l.length) (fun i=>l.length-i) 0 (aK _) ?_ ?_
  ·rw[cA,bP];exact leA
  intro i hi;rcases aD i l.length with hil|hil
  ·obtain⟨x,hx⟩:=gex hil;have hd:l.drop i=x::l.drop (i+1):=by
    rw[aE hil]at hx;rw[<-bB hx,<-bA hil]
   have hxi:=hin x (aG hx);have henc:=aJO hm hxi;have htl:((l.take i).map (shX m.frm m.to)).length=i:=by rw[aA,aV];omega
   have hget:((l.take i).map (shX m.frm m.to)++l.drop i)[0+i]? =some x:=by
    rw[bM,bF zo,htl,dH,hd];rfl
   have hset:∀y:Bx,(((l.take i).map (shX m.frm m.to)++l.drop i).map iV).set (0+i) (iV y)=((l.take i).map (shX m.frm m.to)++y::l.drop (i+1)).map iV:=fun y=>by
    rw[bM,<-fS,dO _ _ zo,htl,dH,hd];rfl
   have hnext:(l.take (i+1)).map (shX m.frm m.to)++l.drop (i+1)=(l.take i).map (shX m.frm m.to)++shX m.frm m.to x::l.drop (i+1):=by
    rw[bE,hx,aQ,cM];rfl
   have hlen:0+i<(((l.take i).map (shX m.frm m.to)++l.drop i).map iV).length:=by
    rw[aA,aC,htl,cH];omega
   generalize hA:(l.take i).map (shX m.frm m.to)++l.drop i=A at*;obtain⟨⟨a0,b0,c0⟩,⟨a1,b1,c1⟩,⟨a2,b2,c2⟩,⟨a3,b3,c3⟩,⟨a4,b4,c4⟩⟩:=bxI hm.1.1;obtain⟨⟨d0,e0,g0⟩,⟨d1,e1,g1⟩,⟨d2,e2,g2⟩,⟨d3,e3,g3⟩,⟨d4,e4,g4⟩⟩:=bxI hm.1.2;obtain⟨_,k0,k1,k2,k3,k4⟩:=id hm;unfold tM at k0 k1 k2 k3 k4;obtain⟨⟨u0,v0,w0⟩,⟨u1,v1,w1⟩,⟨u2,v2,w2⟩,⟨u3,v3,w3⟩,u4,v4,w4⟩:=hxi;(repeat' ((conv=>whnf);first|(with_reducible first|refine Lp.times 6 ?_|refine iJ hil ?_|refine iI hil ?_|refine iH hx ?_|refine iH hget ?_|refine yY (by simpa only[cL]using hlen) ?_)|(refine kH zd ?_)|(refine iC rfl ?_)|refine zG ?_|apply zA|intro h|exact zT));all_goals conv=>whnf
   refine⟨i+1,hil,by omega,?_⟩;try simp only[List.set_set]
   rw[hnext,<-hset,henc,aN,aM];exact leA
  ·rw[aW hil,bO hil,bG];(repeat' ((conv=>whnf);first|(with_reducible refine iT (by rw[aA,aA]) ?_)|refine zG ?_|apply zA|intro h|exact zT));all_goals conv=>whnf
   exact⟨_,gY,hK⟩
theorem Yq:jW [fullB]=true:=by decide+kernel
structure PreI (s:List Bx×List Bx×Int):Prop where
 out:jW s.1=true
 rest:jW s.2.1=true
theorem aQZ(to:List Bx)(m:Mv){s:List Bx×List Bx×Int}(h:PreI s):PreI (K2 to m s):=by
 unfold K2;split
 ·exact⟨tC ..,tC ..⟩
 ·exact h
theorem T9(s:List Bx):jW (kN 0 (jK s)).1=true:=by
 unfold kN;rw[aF (fun h=>h rfl)];split
 ·exact jP
 ·exact F6 s
theorem Uv{op:Bool->Bool->Bool}{e:Int}{a b:List Bx}(h:(opK op e a b).2≠0):(opK op e a b).1=[]:=by
 unfold opK kN at h⊢;split
 ·rfl
 ·split
  ·rfl
  ·rename_i h1 h2;rw[aF h1,aF h2]at h;exact absurd rfl h
theorem aQT{s:List Bx}{a:Bx}(ha:a.ok)(e:Int):∀x,x∈(opK anB e s [a]).1->inX a x:=fun x hx=>by
 unfold opK kN at hx;split at hx
 ·cases hx
 ·split at hx
  ·cases hx
  ·rename_i h1 h2;exact aAi ha (Decidable.byContradiction h2) x hx
theorem aJM(m:Mv)(l:List Bx):(shL m l).length=l.length:=aA ..
theorem aVv(l:List Mv)(hl:l.length<1000000000)(s:List Bx)(hs:s.length<1000000000){K:KT}(hK:K (.tup [iN (K1 l s).1,.v (.int .i64 (K1 l s).2)]) []):AC 77 [lQ l,iN s] [] K:=by
 refine hJ (aPA rfl rfl ?_);unfold K1 at hK;have hm:=fun {K}=>@aCG 0 s hs rfl K;have hto:=T9 s;generalize kN 0 (jK s)=g at*;obtain⟨to,e1⟩:=g;simp only at hK hm hto;have htl:=(kU hto).len;(repeat' ((conv=>whnf);first|(with_reducible first|refine hm ?_|refine Fa ?_)|(refine iE (ys:=[iV fullB]) (aO _) rfl ?_)|refine zG ?_|apply zA|intro h|exact zT));all_goals conv=>whnf
 refine gV (Nat×List Bx×List Bx×Int) (fun g=>⟨1,[(0,oN g.2.2.2)],[(6,.op 0 0),(7,iN to),(8,iN g.2.1),(9,iN g.2.2.1),(18,lQ l),(19,.v (.int .i64 (l.map nR).length)),(20,.v (.int .i64 g.1))]⟩) (fun g=>g.1<=l.length/\PreI g.2/\Ka to l ([],[fullB],e1)=Ka to (l.drop g.1) g.2) (fun g=>l.length-g.1) (0,[],[fullB],e1) ⟨aK _,⟨jP,Yq⟩,by rw[bP]⟩ ?_ ?_
 ·exact leA
 rintro⟨k,o,r,c⟩ ⟨hk,hi,hinv⟩
 simp only at hk hi hinv⊢;have hol:=(kU hi.out).len;have hrl:=(kU hi.rest).len;simp only at hol hrl;rcases aD k l.length with hkl|hkl
 ·obtain⟨x,hx⟩:=gex hkl;have hst:=aJu to hx (o,r,c);have hsi:=aQZ to x hi;unfold K2 at hst hsi;by_cases hxo:x.ok
  ·have v1:∀{K:KT},K (.sb true) []->AC 131 [nR x] [] K:=fun h=>Ov _ (by rw[decide_eq_true hxo];exact h);rw[aH hxo]at hst hsi;simp only at hst hsi;have z1:=fun {K}=>@Uc c r x.frm zo K;have l1:=xW anB c r [x.frm];generalize opK anB c r [x.frm]=q1 at*;obtain⟨p1,c1⟩:=q1;simp only at z1 hst hsi l1;have z2:=fun {K}=>@Uc c1 to x.to zo K;have l2:=xW anB c1 to [x.to];have i2:=aQT (s:=to) hxo.1.2 c1;generalize opK anB c1 to [x.to]=q2 at*;obtain⟨p2,c2⟩:=q2;simp only at z2 hst hsi l2 i2;have z3:=fun {K}=>@aVx x.turn (Mv.ok_turn hxo) p2 zo i2 K;have l3:=aJM x.turn p2;generalize shL x.turn p2=p3 at*;have z4:=fun {K}=>@aKP c2 p1 p3 zo zo K;have l4:=xW anB c2 p1 p3;generalize opK anB c2 p1 p3=q4 at*;obtain⟨p4,c4⟩:=q4;simp only at z4 hst hsi l4;have z5:=fun {K}=>@W6 c4 o p4 zo zo K;generalize opK orB c4 o p4=q5 at*;obtain⟨p5,c5⟩:=q5;simp only at z5 hst hsi;have z6:=fun {K}=>@aCI c5 r x.frm zo K;generalize opK woB c5 r [x.frm]=q6 at*;obtain⟨p6,c6⟩:=q6;simp only at z6 hst hsi;(repeat' ((conv=>whnf);first|(with_reducible first|refine iI hkl ?_|refine iH hx ?_)|(refine v1 ?_)|(refine z1 ?_)|(refine z2 ?_)|(refine aVy x ?_)|(refine z3 ?_)|(refine z4 ?_)|(refine z5 ?_)|(refine z6 ?_)|refine zG ?_|apply zA|intro h|exact zT));all_goals conv=>whnf
   all_goals
    refine⟨(k+1,p5,p6,c6),⟨hkl,hsi,hinv.trans hst⟩,by simp only;omega,?_⟩;simp only;rw[aN k,aM];exact leA
  ·have v1:∀{K:KT},K (.sb false) []->AC 131 [nR x] [] K:=fun h=>Ov _ (by rw[decide_eq_false hxo];exact h);rw[aF hxo]at hst hsi;(repeat' ((conv=>whnf);first|(with_reducible first|refine iI hkl ?_|refine iH hx ?_)|(refine v1 ?_)|refine zG ?_|apply zA|intro h|exact zT));all_goals conv=>whnf
   refine⟨(k+1,o,r,c),⟨hkl,hi,hinv.trans hst⟩,by simp only;omega,?_⟩;simp only;rw[aN k,aM];exact leA
 ·have he:Ka to (l.drop k) (o,r,c)=(o,r,c):=by rw[bO hkl];rfl
  rw[he]at hinv;rw[hinv]at hK;unfold aFJ at hK;simp only at hK;have z1:=fun {K}=>@aKP c r to zo zo K;have l1:=xW anB c r to;generalize opK anB c r to=q1 at*;obtain⟨p1,c1⟩:=q1;simp only at z1 hK l1;have z2:=fun {K}=>@W6 c1 o p1 zo zo K;have l2:=xW orB c1 o p1;have hfe:=@Uv orB c1 o p1;generalize opK orB c1 o p1=q2 at*;obtain⟨p2,c2⟩:=q2;simp only at z2 hK l2 hfe;have z3:∀{K:KT},K (.tup [iN p2,.v (.int .i64 c2)]) [oN c2]->AC 137 [.op 0 0,iN p2] [oN c2] K:=fun h=>aKR c2 p2 zo (by
   by_cases h0:c2=0
   ·rw[aF (fun h=>h h0)];exact h
   ·rw[aH h0];rw[hfe h0]at h;exact h)
  (repeat' ((conv=>whnf);first|(refine z1 ?_)|(refine z2 ?_)|(refine z3 ?_)|refine zG ?_|apply zA|intro h|exact zT));all_goals conv=>whnf
  exact⟨_,gY,hK⟩
theorem aRg(m:Mv){s:List Bx×Int}(h:jW s.1=true):jW (F5 m s).1=true:=by
 unfold F5;split
 ·exact tC ..
 ·exact h
theorem aEq(l:List Mv)(s:List Bx):jW (K1 l s).1=true:=tC ..
theorem aJw(l:List Mv)(s:List Bx):(K1 l s).2≠0->(K1 l s).1=[]:=fun h=>Uv h
theorem aEH:∀(l:List Mv) (e:Int),e≠0->Hq l ([],e)=([],e)
 |[],e,_=>rfl
 |m::l,e,h=>by
  show Hq l (F5 m ([],e))=_;have:F5 m ([],e)=([],e):=by
   unfold F5;split
   ·unfold opK kN;rw[aH h]
   ·rfl
  rw[this];exact aEH l e h
theorem aCH(l:List Mv)(hl:l.length<1000000000)(s:List Bx)(hs:s.length<1000000000){K:KT}(hK:K (.tup [iN (Se (G7 l s)).1,.v (.int .i64 (Se (G7 l s)).2)]) []):AC 28 [lQ l,iN s] [] K:=by
 refine hJ (aHZ rfl rfl ?_);rw[<-aJL]at hK;have hp:=fun {K}=>@aVv l hl s hs K;have hps:=aEq l s;have hpn:=aJw l s;generalize K1 l s=g at*;obtain⟨o0,e0⟩:=g;simp only at hp hps hpn;(repeat' ((conv=>whnf);first|(with_reducible refine hp ?_)|refine zG ?_|apply zA|intro h|exact zT));all_goals conv=>whnf
 refine gV (Nat×List Bx×Int) (fun g=>⟨0,[],[(6,iN g.2.1),(7,.v (.int .i64 g.2.2)),(16,lQ l),(17,.v (.int .i64 (l.map nR).length)),(18,.v (.int .i64 g.1))]⟩) (fun g=>g.1<=l.length/\(jW g.2.1=true/\(g.2.2≠0->g.2.1=[]))/\Hq l (o0,e0)=Hq (l.drop g.1) g.2) (fun g=>l.length-g.1) (0,o0,e0) ⟨aK _,⟨hps,hpn⟩,by rw[bP]⟩ ?_ ?_
 ·exact leA
 rintro⟨k,o,c⟩ ⟨hk,⟨ho,hne⟩,hinv⟩
 simp only at hk ho hne hinv⊢;have hol:=(kU ho).len;rcases aD k l.length with hkl|hkl
 ·obtain⟨x,hx⟩:=gex hkl;by_cases h0:c=0
  case neg=>
   rw[hne h0,aEH _ c h0]at hinv;rw[hinv]at hK;(repeat' ((conv=>whnf);first|(with_reducible first|refine iI hkl ?_|refine iH hx ?_)|refine zG ?_|apply zA|intro h|exact zT));all_goals conv=>whnf
   all_goals first
    |exact⟨_,hU hZ gY,hK⟩
    |(exfalso;omega)
  subst h0;have hst:=aJK hx (o,0);have hsi:=aRg x (s:=(o,0)) ho;unfold F5 at hst hsi;by_cases hxo:x.ok
  ·have v1:∀{K:KT},K (.sb true) []->AC 55 [nR x] [] K:=fun h=>aCK _ (by rw[decide_eq_true hxo];exact h);rw[aH hxo]at hst hsi;simp only at hst hsi;have hcp:iP woB o [x.to]=opK woB 0 o [x.to]:=by
    unfold opK kN;rw[aF (fun h=>h rfl)];by_cases h1:(iP woB o [x.to]).2=0
    ·rw[aF (fun h=>h h1)];exact Prod.ext rfl h1
    ·rw[aH h1];exact Prod.ext (aAO h1) rfl
   have z1:=fun {K}=>@aBj o [x.to] zo zx K;rw[hcp]at z1;have hne2:=@Uv woB 0 o [x.to];generalize opK woB 0 o [x.to]=q1 at*;obtain⟨p1,c1⟩:=q1;simp only at z1 hst hsi hne2;(repeat' ((conv=>whnf);first|(with_reducible first|refine iI hkl ?_|refine iH hx ?_)|(refine v1 ?_)|(refine z1 ?_)|refine zG ?_|apply zA|intro h|exact zT));all_goals conv=>whnf
   all_goals first
    |(refine⟨(k+1,p1,c1),⟨hkl,⟨hsi,hne2⟩,hinv.trans hst⟩,by simp only;omega,?_⟩
      simp only;rw[aN k,aM];exact leA)
    |(exfalso;omega)
  ·have v1:∀{K:KT},K (.sb false) []->AC 55 [nR x] [] K:=fun h=>aCK _ (by rw[decide_eq_false hxo];exact h);rw[aF hxo]at hst hsi;(repeat' ((conv=>whnf);first|(with_reducible first|refine iI hkl ?_|refine iH hx ?_)|(refine v1 ?_)|refine zG ?_|apply zA|intro h|exact zT));all_goals conv=>whnf
   all_goals first
    |(refine⟨(k+1,o,0),⟨hkl,⟨ho,hne⟩,hinv.trans hst⟩,by simp only;omega,?_⟩
      simp only;rw[aN k,aM];exact leA)
    |(exfalso;omega)
 ·have he:Hq (l.drop k) (o,c)=(o,c):=by rw[bO hkl];rfl
  rw[he]at hinv;rw[hinv]at hK;simp only at hK;by_cases h0:c=0
  ·subst h0;(repeat' ((conv=>whnf);first|refine zG ?_|apply zA|intro h|exact zT));all_goals conv=>whnf
   all_goals first
    |exact⟨_,gY,hK⟩
    |(exfalso;omega)
  ·rw[hne h0]at hK;(repeat' ((conv=>whnf);first|refine zG ?_|apply zA|intro h|exact zT));all_goals conv=>whnf
   all_goals first
    |exact⟨_,hU hZ gY,hK⟩
    |(exfalso;omega)
end Go.Proofs.YtgicddadddhonaaGreatDoor
