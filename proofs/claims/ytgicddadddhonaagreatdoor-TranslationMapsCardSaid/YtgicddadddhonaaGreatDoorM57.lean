/- Lemmas. -/
import Derived.Test.YtgicddadddhonaaGreatDoorProg
import Derived.Test.YtgicddadddhonaaGreatDoorM54
set_option linter.unusedVariables false
set_option linter.unusedSimpArgs false
set_option maxRecDepth 100000
set_option maxHeartbeats 4000000
noncomputable section
namespace Go.Proofs.YtgicddadddhonaaGreatDoor
open Go Go.Vm
theorem aXu(c:Nat):∀l:List Int,(l.map fun _=>c).sum=l.length*c
 |[]=>by simp
 |x::l=>by rw[aR,cX,aXu c l,aB,Nat.succ_mul,Nat.add_comm]
theorem aXq(op:Bool->Bool->Bool)(k:Nat)(a b:List Bx)(M:Nat)(hM:∀e,(iY op k a b e).length<=M):(jH op (k+1) a b).length<=(2*(a.length+b.length)+1)*M:=by
 rw[kT,pB];refine bC (xN _ _ _) ?_;have hstl:=qO (lO (4-k) a b) (kF (4-k)).1;have hrl:(lO (4-k) a b).length=a.length+b.length:=by rw[lO,aC,aA,aA]
 refine bC (Eu (g:=fun _=>M) fun e _=>hM e) ?_;rw[aXu];exact bZ M zo
theorem aXJ{f:Nat}{v:Int}{X:List Bx}:∀x,x∈atF f v X->x∈X:=fun x hx=>(cR.1 hx).1
theorem aXK(k:Nat)(X:List Bx)(r:Rg)(h:∀x,x∈X->x.get (4-k)=r)(h1:r.lo<=r.hi)(h2:r.hi<=iX (4-k))(M:Nat)(hM:∀e,(iY orB k X [] e).length<=M):(jH orB (k+1) X []).length<=M:=by
 have hat:∀v,atF (4-k) v X=if r.lo<=v/\v<=r.hi then X else []:=fun v=>by
  unfold atF;split
  ·rename_i hv;rw[dW];intro x hx;rw[h x hx,decide_eq_true hv.1,decide_eq_true hv.2];rfl
  ·rename_i hv;rw[fR];intro x hx;rw[h x hx,aJ,aL,aL];exact hv
 have hR:∀v,iY orB k X [] v=if r.lo<=v/\v<=r.hi then jH orB k X []else []:=fun v=>by
  show jH orB k (atF (4-k) v X) (atF (4-k) v [])=_;rw[hat v];split
  ·rfl
  ·exact rU orB rfl k
 have hl:=r.l0;have g:=mU orB k X [] (mA (lO (4-k) X []) (kF (4-k)).1);rw[kT];by_cases hz:jH orB k X []=[]
 ·have:GInv (iY orB k X []) [] (iX (4-k)+1):=⟨.nil,fun v=>by
   rw[uT];split
   ·unfold lab;rw[aH (by rw[hR v,hz];split<;>rfl)]
   ·rfl,fun g h=>(by cases h),fun g h=>(by cases h)⟩
  rw[g.same this];exact aK _
 ·have:GInv (iY orB k X []) [⟨r.lo,r.hi,jH orB k X []⟩] (iX (4-k)+1):=⟨.one _ h1,fun v=>by
   rw[lB,uT];show _=if 0<=v/\v<iX (4-k)+1 then lab (iY orB k X []) v else none;unfold lab;rw[hR v];by_cases hv:r.lo<=v/\v<=r.hi
   ·rw[aH hv,aH ⟨by omega,by omega⟩,aH hv,aF (by simpa using hz)]
   ·rw[aF hv,aF hv];split<;>simp,fun g h=>by
   rw[aU]at h;subst h;exact⟨hl,by show r.hi<iX (4-k)+1;omega⟩,fun g h=>by
   rw[aU]at h;subst h;exact hz⟩
  rw[g.same this];have hm:=hM r.lo;rw[hR,aH ⟨cC _,h1⟩]at hm;unfold iZ;rw[cS,List.flatMap_nil,bG,aA];exact hm
theorem aXI(x:Hi)(hx:x.ok)(p:List Bx)(hp:p.length<=4096):(jH orB 5 (p.map (Jo x)) []).length<=900000000000:=by
 have hn:(p.map (Jo x)).length<=4096:=by rw[aA];exact hp
 have hX:∀y,y∈p.map (Jo x)->y.r0=mkR x.addr x.addr/\y.r3=x.ports:=fun y hy=>by
  obtain⟨b,_,rfl⟩:=bQ.1 hy;exact⟨rfl,rfl⟩
 generalize p.map (Jo x)=X at*;have l1:∀(Y:List Bx),Y.length<=4096->(jH orB 1 Y []).length<=8193:=fun Y hY=>by
  refine bC (aXq orB 0 Y [] 1 fun e=>?_) (by simp only[aI];omega);show(jH orB 0 _ _).length<=1;rw[jH];split<;>simp
 have hat:∀(f:Nat) (v:Int) (Y:List Bx),Y.length<=4096->(atF f v Y).length<=4096:=fun f v Y hY=>bC (dK ..) hY;have l2:∀(Y:List Bx),Y.length<=4096->(∀y,y∈Y->y.r3=x.ports)->(jH orB 2 Y []).length<=8193:=fun Y hY h3=>
  aXK 1 Y x.ports h3 hx.2.1 hx.2.2 8193 fun e=>l1 _ (hat _ e Y hY)
 have l3:∀(Y:List Bx),Y.length<=4096->(∀y,y∈Y->y.r3=x.ports)->(jH orB 3 Y []).length<=8193*8193:=fun Y hY h3=>by
  refine bC (aXq orB 2 Y [] 8193 fun e=>l2 _ (hat _ e Y hY) fun y hy=>h3 y (aXJ y hy)) ?_;exact bZ _ (by simp only[aI];omega)
 have l4:∀(Y:List Bx),Y.length<=4096->(∀y,y∈Y->y.r3=x.ports)->(jH orB 4 Y []).length<=8193*(8193*8193):=fun Y hY h3=>by
  refine bC (aXq orB 3 Y [] (8193*8193) fun e=>l3 _ (hat _ e Y hY) fun y hy=>h3 y (aXJ y hy)) ?_;exact bZ _ (by simp only[aI];omega)
 refine bC (aXK 4 X (mkR x.addr x.addr) (fun y hy=>(hX y hy).1) (aCP _) (mkR x.addr x.addr).h1 _ fun e=>l4 _ (hat _ e X hn) fun y hy=>(hX y (aXJ y hy)).2) ?_;decide
theorem aXh(op:Bool->Bool->Bool){e:Int}(he:e=0\/e=3)(a b:List Bx):(opK op e a b).2=0\/(opK op e a b).2=3:=by
 rcases he with rfl|rfl
 ·cases h:kR op a b with
  |none=>rw[nH h];exact .inr rfl
  |some s=>rw[nI h];exact .inl rfl
 ·exact .inr rfl
theorem aXw(op:Bool->Bool->Bool)(a b:List Bx):opK op 0 a b=if(iP op a b).2=0 then iP op a b else([],(iP op a b).2):=by
 unfold opK kN;rw[aF (fun h=>h rfl)];by_cases h:(iP op a b).2=0
 ·rw[aF (fun h'=>h' h),aH h];exact Prod.ext rfl h.symm
 ·rw[aH h,aF h]
theorem aYC{s:List Bx}(h:jW s=true):iP orB s []=(s,0):=by
 have hl:=(kU h).len;rw[rW h jP,F7 h,nZ,pM,aF zo,aF zo]
theorem aXy(s:List Bx):opK orB 0 s []=kN 0 (jK s):=by
 have hn:jK []=([],0):=by decide+kernel
 unfold opK
 congr 1
 by_cases h:(jK s).2=0
 ·have e:iP orB s []=iP orB (jK s).1 []:=by
   have hg:jK (jK s).1=((jK s).1,0):=by
    have:=F6 s;generalize (jK s).1=g at*;unfold jK;rw[aH this]
   unfold iP;rw[hg,aF (fun h'=>h' h),aF (show ¬((0:Int)≠0)from fun h=>h rfl)]
  rw[e,aYC (F6 s)];exact Prod.ext rfl h.symm
 ·unfold iP;rw[aH h];have:(jK s).1=[]:=by
   unfold jK at h⊢;split
   ·rename_i hs;rw[aH hs]at h;exact absurd rfl h
   ·rename_i hs;rw[aF hs]at h;exact zD s [] h
  exact Prod.ext this.symm rfl
def eR(q:Int)(img:List Bx):Int:=if q≠0\/4096<img.length then 3 else 0
def aXi(x:Hi)(p:List Bx):List Bx:=jH orB 5 (p.map (Jo x)) []
def aXn(x:Hi)(s:List Bx×List Bx×Int):List Bx×List Bx×Int:=
 if x.ok then
  ((opK orB (eR (opK woB (opK anB s.2.2 s.2.1 [x.mt]).2 s.2.1 [x.mt]).2 (aXi x (opK anB s.2.2 s.2.1 [x.mt]).1)) s.1 (aXi x (opK anB s.2.2 s.2.1 [x.mt]).1)).1,
    (opK woB (opK anB s.2.2 s.2.1 [x.mt]).2 s.2.1 [x.mt]).1,(opK orB (eR (opK woB (opK anB s.2.2 s.2.1 [x.mt]).2 s.2.1 [x.mt]).2 (aXi x (opK anB s.2.2 s.2.1 [x.mt]).1)) s.1 (aXi x (opK anB s.2.2 s.2.1 [x.mt]).1)).2)
 else s
def aXk(l:List Hi)(s:List Bx×List Bx×Int):List Bx×List Bx×Int:=l.foldl (fun s m=>aXn m s) s
theorem aYz(img:List Bx):eR 3 img=3:=rfl
theorem aZc(x:Hi)(o r:List Bx):(aXn x (o,r,3)).2.2=3:=by
 unfold aXn;split
 ·simp only[Mm,aYz]
 ·rfl
theorem aXl:∀(l:List Hi) (s:List Bx×List Bx×Int),s.2.2=3->(aXk l s).2.2=3
 |[],s,h=>h
 |x::l,(o,r,e),h=>by
  simp only at h;subst h;exact aXl l _ (aZc x o r)
theorem aXs:∀(l:List Hi) (o r:List Bx),(∀y,wI l r o=some y->aXk l (o,r,0)=(y.2,y.1,0))/\(wI l r o=none->(aXk l (o,r,0)).2.2=3)
 |[],o,r=>⟨fun y h=>by simp only[wI,bN]at h;subst h;rfl,fun h=>by simp[wI]at h⟩
 |x::l,o,r=>by
  have hs:aXk (x::l) (o,r,0)=aXk l (aXn x (o,r,0)):=rfl;rw[hs,wI];unfold aXn;split;case isFalse hx=>exact aXs l o r
  case isTrue hx=>
   simp only;cases h1:kR anB r [x.mt]with
   |none=>
    simp only[nH h1,eC,Mm,aYz];exact⟨fun y h=>(by cases h),fun _=>aXl l _ rfl⟩
   |some p=>
    simp only[nI h1,bU];cases h2:kR woB r [x.mt]with
    |none=>
     simp only[nH h2,eC,aYz,Mm];exact⟨fun y h=>(by cases h),fun _=>aXl l _ rfl⟩
    |some r'=>
     simp only[nI h2,bU];unfold Jm;by_cases h3:(jH orB 5 (p.map (Jo x)) []).length<=4096
     ·have he:eR 0 (aXi x p)=0:=by
       unfold eR aXi;rw[aF]
       rintro(h|h)
       ·exact h rfl
       ·omega
      rw[aH h3,he];simp only[bU];show(∀y,(kR orB o (aXi x p)).bind _=some y->_)/\((kR orB o (aXi x p)).bind _=none->_);cases h4:kR orB o (aXi x p)with
      |none=>
       simp only[nH h4,eC];exact⟨fun y h=>(by cases h),fun _=>aXl l _ rfl⟩
      |some o'=>
       simp only[nI h4,bU];exact aXs l o' r'
     ·have he:eR 0 (aXi x p)=3:=by
       unfold eR aXi;rw[aH (.inr zo)]
      rw[aF h3,he];simp only[eC,Mm];exact⟨fun y h=>(by cases h),fun _=>aXl l _ rfl⟩
def aXU(l:List Hi)(s:List Bx):List Bx×Int:=
 opK orB (aXk l ([],(opK orB 0 s []).1,(opK orB 0 s []).2)).2.2 (aXk l ([],(opK orB 0 s []).1,(opK orB 0 s []).2)).1 (aXk l ([],(opK orB 0 s []).1,(opK orB 0 s []).2)).2.1
theorem aXA(l:List Hi)(s:List Bx):aXU l s=Se (T0 l s):=by
 unfold aXU T0;rw[aXy];have h3:∀q:List Bx×List Bx×Int,q.2.2=3->opK orB q.2.2 q.1 q.2.1=([],3):=fun q h=>by rw[h];rfl
 by_cases hg:(jK s).2=0
 ·have hk:kN 0 (jK s)=((jK s).1,0):=by unfold kN;rw[aF (fun h=>h rfl),aF (fun h=>h hg)]
  rw[aH hg,hk];obtain⟨e1,e2⟩:=aXs l [] (jK s).1;simp only;cases hp:wI l (jK s).1 []with
  |none=>rw[h3 _ (e2 hp)];rfl
  |some y=>
   rw[e1 y hp];simp only[bU];cases h2:kR orB y.2 y.1 with
   |none=>rw[nH h2];rfl
   |some z=>rw[nI h2];rfl
 ·have hk:kN 0 (jK s)=([],3):=by
   unfold kN;rw[aF (fun h=>h rfl),aH hg];rcases Hw s with h|h
   ·exact absurd h hg
   ·rw[h]
  rw[aF hg,hk];simp only;rw[h3 _ (aXl l _ rfl)];rfl
theorem aYt{l:List Hi}{k:Nat}{x:Hi}(h:l[k]? =some x)(s:List Bx×List Bx×Int):aXk (l.drop k) s=aXk (l.drop (k+1)) (aXn x s):=by
 have hk:=(aP.1 h).1;have e:l[k]=x:=(aP.1 h).2;rw[bA hk,e];rfl
def E03(e:Int):Prop:=e=0\/e=3
theorem aYw(q:Int)(img:List Bx):E03 (eR q img):=by
 unfold eR;split
 ·exact .inr rfl
 ·exact .inl rfl
theorem aYu(x:Hi){s:List Bx×List Bx×Int}(h:E03 s.2.2):E03 (aXn x s).2.2:=by
 unfold aXn;split
 ·exact aXh _ (aYw _ _) _ _
 ·exact h
theorem aYs(to:List Bx)(m:Mv){s:List Bx×List Bx×Int}(h:E03 s.2.2):E03 (K2 to m s).2.2:=by
 unfold K2;split
 ·exact aXh _ (aXh _ (aXh _ (aXh _ (aXh _ h _ _) _ _) _ _) _ _) _ _
 ·exact h
def aYG:Ctx:={N:=44,np:=1}
abbrev aXr:=ofD aYG Tryz.func235
def aXX:Ctx:={N:=44,np:=2,hints:=h1 2 [.freeze 3] hn,out:=true}
abbrev aXv:=ofD aXX Tryz.func235
def aYK:Ctx:={N:=11,np:=1}
abbrev aYj:=ofD aYK Tryz.func237
def aYL:Ctx:={N:=26,plan:=p1 5 (lp 7 [14,16,18,21]) pn,hints:=h1 2 [.virt 7 10] hn}
abbrev aYk:=ofD aYL Tryz.func236
def aYJ:Ctx:={N:=87,own:=oz [235,237],plan:=p1 11 (lp 15 [30,32,34,37]) pn,hints:=h1 5 [.asL 8,.freeze 7] hn}
abbrev aYi:=ofD aYJ Tryz.func162
def aYM:Ctx:={N:=15,plan:=p1 1 (lz [1,3,5,7,9,11,15] (.alt 6 (ln [16,19,20]) (.alt 8 (ln [13,19,20]) Ab))) pn}
abbrev aYl:=ofD aYM Tryz.func240
def aYN:Ctx:={N:=21}
abbrev aYm:=ofD aYN Tryz.func239
def aYI:Ctx:={N:=92,own:=oz [235,237],plan:=p1 14 (lp 9 [18,20,22,25]) pn,hints:=h1 4 [.asL 8] (h1 11 [.virt 11 10] hn)}
abbrev aYh:=ofD aYI Tryz.func164
def aXF:Ctx:={N:=43}
abbrev aXD:=ofD aXF Tryz.func95
def aXY:Ctx:={N:=11}
abbrev aXR:=ofD aXY Tryz.func96
def aYH:Ctx:={N:=17}
abbrev aYg:=ofD aYH Tryz.func54
def aYF:Ctx:={N:=22,plan:=p1 6 Ad pn}
abbrev aYf:=ofD aYF Tryz.func35
def aYS:Ctx:={N:=39,plan:=p1 4 (lo 23) pn}
abbrev aYr:=ofD aYS Tryz.func160
def aYQ:Ctx:={N:=27,plan:=p1 4 (ln [1,3,5,7,8,11,13,15,17,19,21,23,24,27]) pn}
abbrev aYp:=ofD aYQ Tryz.func233
def aYR:Ctx:={N:=44,plan:=p1 4 (lp 31 [62]) pn}
abbrev aYq:=ofD aYR Tryz.func234
def aYO:Ctx:={N:=43,plan:=p1 4 (lz [1,5,7,9,11,13,15,17,19,21,23] (.alt 1 (.alt 12 (ln [26,28]) (.alt 13 (ln [24,28]) Ab)) (.alt 13 (ln [2,24,28]) Ab))) pn}
abbrev aYn:=ofD aYO Tryz.func161
def aXZ:Ctx:={N:=31,plan:=p1 4 (ln [1,3,5,7,8,11,13,15,17,19,21,23,24,27]) pn}
abbrev aXS:=ofD aXZ Tryz.func94
theorem aXG{h:Hd}(ho:h.Ok):iV (hdB h)=.agg [.v (.int .u32 h.src),.v (.int .u32 h.src),.v (.int .u32 h.dst),.v (.int .u32 h.dst),.v (.int .u32 h.pro),.v (.int .u32 h.pro),.v (.int .u32 h.sp),.v (.int .u32 h.sp),.v (.int .u32 h.dp),.v (.int .u32 h.dp)]:=by
 obtain⟨⟨a0,b0⟩,⟨a1,b1⟩,⟨a2,b2⟩,⟨a3,b3⟩,a4,b4⟩:=Tz ho;show AV.agg [.v (.int .u32 (mkR h.src h.src).lo),.v (.int .u32 (mkR h.src h.src).hi),.v (.int .u32 (mkR h.dst h.dst).lo),.v (.int .u32 (mkR h.dst h.dst).hi),.v (.int .u32 (mkR h.pro h.pro).lo),.v (.int .u32 (mkR h.pro h.pro).hi),.v (.int .u32 (mkR h.sp h.sp).lo),.v (.int .u32 (mkR h.sp h.sp).hi),.v (.int .u32 (mkR h.dp h.dp).lo),.v (.int .u32 (mkR h.dp h.dp).hi)]=_;rw[a0,b0,a1,b1,a2,b2,a3,b3,a4,b4]
theorem aZf(h:Hd)(ho:h.Ok){K:KT}(hK:K (iV (hdB h)) []):AC 35 [lC h] [] K:=by
 refine aYf rfl rfl ?_;rw[aXG ho]at hK;(repeat' ((conv=>whnf);first|(with_reducible first|refine cvPt h ho ?_|refine Lp.times 6 ?_)|(refine kH zd ?_)|(refine iC rfl ?_)|refine zG ?_|apply zA|intro h|exact zT));all_goals conv=>whnf
 all_goals exact hK
theorem aXj(m:Mv){K:KT}(hK:K (.sb (decide m.ok)) []):AC 160 [nR m] [] K:=by
 refine gZ (aYr rfl rfl ?_);by_cases hf:m.frm.ok/\m.to.ok
 case neg=>
  have hn:decide m.ok=false:=decide_eq_false fun h=>hf h.1;(repeat' ((conv=>whnf);first|(refine cr3Val m.frm ?_)|(refine cr3Val m.to ?_)|(with_reducible first|refine Lp.times 6 ?_|refine jD fun r r0 r1=>?_)|(refine kH zd ?_)|(refine iC rfl ?_)|refine zG ?_|apply zA|intro h|exact zT));all_goals conv=>whnf
  all_goals first
   |exact iU hK hn
   |(exfalso;simp_all;done)
   |(have hto:decide m.to.ok=decide m.ok:=by
      rw[hn];exact decide_eq_false fun h'=>hf ⟨h,h'⟩
     first
      |exact kB hK hto
      |exact kB hK hto.symm)
 have v1:∀{K:KT},K (.sb true) []->AC 140 [iV m.frm] [] K:=fun h=>cr3Val _ (by rw[decide_eq_true hf.1];exact h);have v2:∀{K:KT},K (.sb true) []->AC 140 [iV m.to] [] K:=fun h=>cr3Val _ (by rw[decide_eq_true hf.2];exact h);obtain⟨⟨a0,b0,c0⟩,⟨a1,b1,c1⟩,⟨a2,b2,c2⟩,⟨a3,b3,c3⟩,⟨a4,b4,c4⟩⟩:=bxI hf.1;obtain⟨⟨d0,e0,g0⟩,⟨d1,e1,g1⟩,⟨d2,e2,g2⟩,⟨d3,e3,g3⟩,⟨d4,e4,g4⟩⟩:=bxI hf.2;(repeat' ((conv=>whnf);first|(refine v1 ?_)|(refine v2 ?_)|(with_reducible refine Lp.times 6 ?_)|(refine kH zd ?_)|(refine iC rfl ?_)|refine zG ?_|apply zA|intro h|exact zT));all_goals conv=>whnf
 all_goals first
  |exact kB hK (decide_eq_true ⟨hf,by unfold tM;omega,by unfold tM;omega,by unfold tM;omega,by unfold tM;omega,by unfold tM;omega⟩).symm
  |exact kB hK (decide_eq_true ⟨hf,by unfold tM;omega,by unfold tM;omega,by unfold tM;omega,by unfold tM;omega,by unfold tM;omega⟩)
  |exact kE hK (decide_eq_true ⟨hf,by unfold tM;omega,by unfold tM;omega,by unfold tM;omega,by unfold tM;omega,by unfold tM;omega⟩)
  |exact iU hK (decide_eq_false fun h=>by obtain⟨_,k0,k1,k2,k3,k4⟩:=h;unfold tM at k0 k1 k2 k3 k4;omega)
theorem aYX(l:List Mv)(g:Hd)(ho:g.Ok)(hl:l.length<1000000000){K:KT}(hK:K (.v (.int .i64 (jM (yG g) l))) []):AC 233 [lQ l,lC g] [] K:=by
 refine aYp rfl rfl ?_;(repeat' ((conv=>whnf);first|refine zG ?_|apply zA|intro h|exact zT));all_goals conv=>whnf
 refine gV Nat (fun k=>⟨1,[(0,.box (E8 g))],[(0,lQ l),(3,.op 0 0),(5,.v (.int .i64 k))]⟩) (fun k=>k<=l.length/\∀(i:Nat) y,i<k->l[i]? =some y->yG g y=false) (fun k=>l.length-k) 0 ⟨aK _,fun i y hi=>absurd hi (bD _)⟩ ?_ ?_
 ·exact leA
 intro k ⟨hk,hinv⟩;rcases aD k l.length with hkl|hkl
 ·obtain⟨x,hx⟩:=gex hkl;have hnx:∀b,yG g x=b->b=false->k+1<=l.length/\∀(i:Nat) y,i<k+1->l[i]? =some y->yG g y=false:=fun b h1 h2=>⟨hkl,jJ hx (h1.trans h2) hinv⟩
  have hat:=fun h=>jN (p:=yG g) hx h hinv;by_cases hok:x.ok
  ·have v1:∀{K:KT},K (.sb true) []->AC 160 [nR x] [] K:=fun h=>aXj _ (by rw[decide_eq_true hok];exact h);have v2:=fun {K}=>@cvCon x.frm g ho K;have hh:yG g x=oG x.frm g:=by unfold yG;rw[decide_eq_true hok,dQ]
   rw[hh]at hnx hat;generalize oG x.frm g=c at*;(repeat' ((conv=>whnf);first|(with_reducible first|refine iI hkl ?_|refine iH hx ?_)|(refine v1 ?_)|(refine v2 ?_)|refine zG ?_|apply zA|intro h|exact zT));all_goals conv=>whnf
   all_goals first
    |(rw[hat zw]at hK;exact hK)
    |(refine⟨k+1,hnx _ rfl (by first|with_reducible assumption|simp_all),by omega,?_⟩
      rw[aN,aM];exact leA)
  ·have v1:∀{K:KT},K (.sb false) []->AC 160 [nR x] [] K:=fun h=>aXj _ (by rw[decide_eq_false hok];exact h);have hh:yG g x=false:=by unfold yG;rw[decide_eq_false hok,fI]
   (repeat' ((conv=>whnf);first|(with_reducible first|refine iI hkl ?_|refine iH hx ?_)|(refine v1 ?_)|refine zG ?_|apply zA|intro h|exact zT));all_goals conv=>whnf
   all_goals first
    |(refine⟨k+1,hnx _ hh rfl,by omega,?_⟩
      rw[aN,aM];exact leA)
 ·(repeat' ((conv=>whnf);first|refine zG ?_|apply zA|intro h|exact zT));all_goals conv=>whnf
  rw[jS (iL hkl hinv)]at hK;exact hK
theorem aXO(m:Mv)(hm:m.ok)(x:Bx)(hx:inX m.frm x){K:KT}(hK:K (iV (shX m.frm m.to x)) []):AC 234 [iV x,iV m.frm,iV m.to] [] K:=by
 refine aYq rfl rfl ?_;rw[aJO hm hx]at hK;obtain⟨⟨a0,b0,c0⟩,⟨a1,b1,c1⟩,⟨a2,b2,c2⟩,⟨a3,b3,c3⟩,⟨a4,b4,c4⟩⟩:=bxI hm.1.1;obtain⟨⟨d0,e0,g0⟩,⟨d1,e1,g1⟩,⟨d2,e2,g2⟩,⟨d3,e3,g3⟩,⟨d4,e4,g4⟩⟩:=bxI hm.1.2;obtain⟨_,k0,k1,k2,k3,k4⟩:=id hm;unfold tM at k0 k1 k2 k3 k4;obtain⟨⟨u0,v0,w0⟩,⟨u1,v1,w1⟩,⟨u2,v2,w2⟩,⟨u3,v3,w3⟩,u4,v4,w4⟩:=hx;simp only[Int.add_comm (m.to.r0.lo),Int.add_comm (m.to.r1.lo),Int.add_comm (m.to.r2.lo),Int.add_comm (m.to.r3.lo),Int.add_comm (m.to.r4.lo)]at hK;(repeat' ((conv=>whnf);first|(with_reducible refine Lp.times 6 ?_)|(refine kH zd ?_)|(refine iC rfl ?_)|refine zG ?_|apply zA|intro h|exact zT));all_goals conv=>whnf
 all_goals exact hK
theorem aZa(m:Mv)(hm:m.ok)(l:List Bx)(hl:l.length<1000000)(hin:∀x,x∈l->inX m.frm x){K:KT}(hK:K (iN (shL m l)) []):AC 236 [iN l,iV m.frm,iV m.to] [] K:=by
 refine hJ (aYk rfl rfl ?_);(repeat' ((conv=>whnf);first|refine zG ?_|apply zA|intro h|exact zT));all_goals conv=>whnf
 refine gV Nat (fun k=>⟨3,[(0,.box (Yf m.frm)),(1,.box (Yf m.to)),(2,.arr 10 ((shL m (l.take k)).map iV))],[(0,iN l),(4,.op 0 0),(5,.op 1 0),(7,.os 2 10 0 (shL m (l.take k)).length),(8,.v (.int .i64 k))]⟩) (fun k=>k<=l.length) (fun k=>l.length-k) 0 (aK _) ?_ ?_
 ·exact leA
 intro k hk;rcases aD k l.length with hkl|hkl
 ·obtain⟨x,hx⟩:=gex hkl;have hst:shL m (l.take (k+1))=shL m (l.take k)++[shX m.frm m.to x]:=by
   unfold shL;rw[bE,hx,aQ];rfl
  have hlt:(shL m (l.take k)).length<=1000000:=by rw[aJM,aV];omega
  have v1:=fun {K}=>@aXO m hm x (hin x (aG hx)) K;generalize shL m (l.take k)=A at*;(repeat' ((conv=>whnf);first|(with_reducible first|refine iI hkl ?_|refine iH hx ?_)|(refine v1 ?_)|refine zG ?_|apply zA|intro h|exact zT));all_goals conv=>whnf
  all_goals
   refine⟨k+1,hkl,by omega,?_⟩;rw[hst,aQ,aC,aN k,aM];exact leA
 ·rw[aW hkl];(repeat' ((conv=>whnf);first|(with_reducible refine iT zx ?_)|refine zG ?_|apply zA|intro h|exact zT));all_goals conv=>whnf
  exact⟨_,gY,hK⟩
theorem aYV(h:Hd)(ho:h.Ok){K:KT}(hK:K (lC h) []):AC 54 [.agg [.v (.int .u32 h.src),.v (.int .u32 h.dst),.v (.int .u32 h.pro),.v (.int .u32 h.sp),.v (.int .u32 h.dp)]] [] K:=by
 refine aYg rfl rfl ?_;obtain⟨s0,s1,d0,d1,p0,p1,a0,a1,b0,b1⟩:=id ho;(repeat' ((conv=>whnf);first|(refine kH zd ?_)|(with_reducible first|refine aWg rfl zo zo ?_|refine aKZ rfl zo zo ?_)|refine zG ?_|apply zA|intro h|exact zT));all_goals conv=>whnf
 exact hK
theorem aYb{m:Mv}(hm:m.ok){g:Hd}(ho:g.Ok)(hc:oG m.frm g=true):inX m.frm (hdB g):=by
 obtain⟨⟨x0,y0⟩,⟨x1,y1⟩,⟨x2,y2⟩,⟨x3,y3⟩,⟨x4,y4⟩,_⟩:=(pI _ _).1 hc;obtain⟨⟨a0,b0⟩,⟨a1,b1⟩,⟨a2,b2⟩,⟨a3,b3⟩,a4,b4⟩:=Tz ho;refine⟨?_,?_,?_,?_,?_⟩
 ·show m.frm.r0.lo<=(mkR g.src g.src).lo/\(mkR g.src g.src).lo<=(mkR g.src g.src).hi/\(mkR g.src g.src).hi<=m.frm.r0.hi;omega
 ·show m.frm.r1.lo<=(mkR g.dst g.dst).lo/\(mkR g.dst g.dst).lo<=(mkR g.dst g.dst).hi/\(mkR g.dst g.dst).hi<=m.frm.r1.hi;omega
 ·show m.frm.r2.lo<=(mkR g.pro g.pro).lo/\(mkR g.pro g.pro).lo<=(mkR g.pro g.pro).hi/\(mkR g.pro g.pro).hi<=m.frm.r2.hi;omega
 ·show m.frm.r3.lo<=(mkR g.sp g.sp).lo/\(mkR g.sp g.sp).lo<=(mkR g.sp g.sp).hi/\(mkR g.sp g.sp).hi<=m.frm.r3.hi;omega
 ·show m.frm.r4.lo<=(mkR g.dp g.dp).lo/\(mkR g.dp g.dp).lo<=(mkR g.dp g.dp).hi/\(mkR g.dp g.dp).hi<=m.frm.r4.hi;omega
theorem aYT(l:List Mv)(g:Hd)(ho:g.Ok)(hl:l.length<1000000000){K:KT}(hK:K (lC (Nk l g)) []):AC 161 [lQ l,lC g] [] K:=by
 have hmt:=fun {K}=>@aYX l g ho hl K;have hap:=aFa l ho;refine aYn rfl rfl ?_;unfold Nk at hK hap;cases hf:l.find? (yG g)with
 |none=>
  rw[hf]at hK;simp only at hK;rw[aFN hf]at hmt;(repeat' ((conv=>whnf);first|(with_reducible refine hmt ?_)|refine zG ?_|apply zA|intro h|exact zT));all_goals conv=>whnf
  all_goals first
   |exact hK
   |(exfalso;omega)
 |some m=>
  rw[hf]at hK hap;simp only at hK hap;obtain⟨k,hk,hp,he⟩:=aFM hf;have hkl:=(aP.1 hk).1;rw[he]at hmt;unfold yG at hp;rw[aJ,aL]at hp;have hix:=aYb hp.1 ho hp.2;have z1:∀{K:KT},K (iV (hdB g)) []->AC 35 [lC g] [] K:=fun h=>aZf g ho h;have z2:=fun {K}=>@aXO m hp.1 (hdB g) hix K;have z3:=fun {K}=>@aYV (shH m g) hap K;obtain⟨⟨a0,b0⟩,⟨a1,b1⟩,⟨a2,b2⟩,⟨a3,b3⟩,a4,b4⟩:=Tz ho;obtain⟨i0,i1,i2,i3,i4⟩:=hix;obtain⟨_,k0,k1,k2,k3,k4⟩:=hp.1;have q0:(shX m.frm m.to (hdB g)).r0.lo=(shH m g).src:=(zP k0 i0).1.trans (by show _+((mkR g.src g.src).lo-_)=_+(g.src-_);rw[a0]);have q1:(shX m.frm m.to (hdB g)).r1.lo=(shH m g).dst:=(zP k1 i1).1.trans (by show _+((mkR g.dst g.dst).lo-_)=_+(g.dst-_);rw[a1]);have q2:(shX m.frm m.to (hdB g)).r2.lo=(shH m g).pro:=(zP k2 i2).1.trans (by show _+((mkR g.pro g.pro).lo-_)=_+(g.pro-_);rw[a2]);have q3:(shX m.frm m.to (hdB g)).r3.lo=(shH m g).sp:=(zP k3 i3).1.trans (by show _+((mkR g.sp g.sp).lo-_)=_+(g.sp-_);rw[a3]);have q4:(shX m.frm m.to (hdB g)).r4.lo=(shH m g).dp:=(zP k4 i4).1.trans (by show _+((mkR g.dp g.dp).lo-_)=_+(g.dp-_);rw[a4]);rw[<-q0,<-q1,<-q2,<-q3,<-q4]at z3;generalize hdB g=B at*;generalize shX m.frm m.to B=S at*;(repeat' ((conv=>whnf);first|(with_reducible first|refine hmt ?_|refine iI hkl ?_|refine iH hk ?_)|(refine z1 ?_)|(refine z2 ?_)|(refine z3 ?_)|(refine kH zd ?_)|refine zG ?_|apply zA|intro h|exact zT));all_goals conv=>whnf
  all_goals first
   |exact hK
   |(exfalso;omega)
theorem aZh(l:List Mv)(g:Hd)(ho:g.Ok)(hl:l.length<1000000000){K:KT}(hK:K (.tup [lC (nT l g).1,.sb (nT l g).2]) []):AC 94 [lQ l,lC g] [] K:=by
 refine hJ (aXS rfl rfl ?_);(repeat' ((conv=>whnf);first|refine zG ?_|apply zA|intro h|exact zT));all_goals conv=>whnf
 refine gV Nat (fun k=>⟨2,[(0,.box (E8 g)),(1,.box (E8 zHd))],[(0,lQ l),(3,.op 0 0),(4,.op 1 0),(6,.v (.int .i64 k))]⟩) (fun k=>k<=l.length/\∀(i:Nat) y,i<k->l[i]? =some y->Ku g y=false) (fun k=>l.length-k) 0 ⟨aK _,fun i y hi=>absurd hi (bD _)⟩ ?_ ?_
 ·exact leA
 intro k ⟨hk,hinv⟩;rcases aD k l.length with hkl|hkl
 ·obtain⟨x,hx⟩:=gex hkl;have hnx:∀b,Ku g x=b->b=false->k+1<=l.length/\∀(i:Nat) y,i<k+1->l[i]? =some y->Ku g y=false:=fun b h1 h2=>⟨hkl,jJ hx (h1.trans h2) hinv⟩
  have hat:∀b,Ku g x=b->b=true->nT l g=(zHd,false):=fun b h1 h2=>by
   unfold nT;rw[aH (bR.2 ⟨x,aG hx,h1.trans h2⟩)]
  by_cases hok:x.ok
  ·have v1:∀{K:KT},K (.sb true) []->AC 160 [nR x] [] K:=fun h=>aXj _ (by rw[decide_eq_true hok];exact h);have v2:=fun {K}=>@cvCon x.to g ho K;have hh:Ku g x=oG x.to g:=by unfold Ku;rw[decide_eq_true hok,dQ]
   generalize oG x.to g=c at*;(repeat' ((conv=>whnf);first|(with_reducible first|refine iI hkl ?_|refine iH hx ?_)|(refine v1 ?_)|(refine v2 ?_)|refine zG ?_|apply zA|intro h|exact zT));all_goals conv=>whnf
   all_goals first
    |(rw[hat _ hh (by first|with_reducible assumption|simp_all)]at hK
      exact⟨_,hU gY Weak.bool,hK⟩)
    |(refine⟨k+1,hnx _ hh (by first|with_reducible assumption|simp_all),by omega,?_⟩
      rw[aN,aM];exact leA)
  ·have v1:∀{K:KT},K (.sb false) []->AC 160 [nR x] [] K:=fun h=>aXj _ (by rw[decide_eq_false hok];exact h);have hh:Ku g x=false:=by unfold Ku;rw[decide_eq_false hok,fI]
   (repeat' ((conv=>whnf);first|(with_reducible first|refine iI hkl ?_|refine iH hx ?_)|(refine v1 ?_)|refine zG ?_|apply zA|intro h|exact zT));all_goals conv=>whnf
   all_goals first
    |(refine⟨k+1,hnx _ hh rfl,by omega,?_⟩
      rw[aN,aM];exact leA)
 ·have hn:nT l g=(Nk l g,true):=by
   unfold nT;rw[aF];rw[bR]
   rintro⟨y,hy,h⟩
   obtain⟨j,hj⟩:=bH.1 hy;rw[iL hkl hinv j y hj]at h;cases h
  rw[hn]at hK;(repeat' ((conv=>whnf);first|(refine aYT l g ho hl ?_)|refine zG ?_|apply zA|intro h|exact zT));all_goals conv=>whnf
  exact⟨_,hU gY Weak.bool,hK⟩
abbrev flO(y:AV):Vm.Obj:=.box [y]
def flg(e:Int):Bool:=decide (e≠0)
theorem aXt:flg 0=false:=rfl
theorem aXo:flg 3=true:=rfl
theorem aXm(op:Bool->Bool->Bool)(a b:List Bx):flg (opK op 0 a b).2= !decide ((iP op a b).2=0)/\(opK op 0 a b).1=(iP op a b).1:=by
 rw[aXw];unfold flg;by_cases h:(iP op a b).2=0
 ·rw[aH h,h];exact⟨rfl,rfl⟩
 ·rw[aF h];refine⟨?_,(aAO h).symm⟩;simp[h]
section
variable {e:Int} (he:E03 e) (a:List Bx) (ha:a.length<1000000000)
include he ha
theorem aXp(b:List Bx)(hb:b.length<1000000000){K:KT}(hK:K (iN (opK orB e a b).1) [flO (.sb (flg (opK orB e a b).2))]):AC 235 [.op 0 0,.v (.int .i64 0),iN a,iN b] [flO (.sb (flg e))] K:=by
 refine hJ (aXr rfl rfl ?_);rcases he with rfl|rfl
 ·obtain⟨h1,h2⟩:=aXm orB a b;rw[h1,h2]at hK;have hm:=fun {K}=>@cr4Un a b ha hb K;generalize iP orB a b=q at*;obtain⟨s,r⟩:=q;simp only at hm hK;rw[aXt]
  all_goals
   (repeat' ((conv=>whnf);first|(with_reducible refine hm ?_)|refine zG ?_|apply zA|intro h|exact zT));all_goals conv=>whnf
   all_goals first
    |exact⟨_,gY,hK⟩
    |(exfalso;simp_all;done)
 ·rw[aXo];rw[Mm]at hK
  all_goals
   (repeat' ((conv=>whnf);first|refine zG ?_|apply zA|intro h|exact zT));all_goals conv=>whnf
   all_goals first
    |exact⟨_,hZ,hK⟩
    |(exfalso;simp_all;done)
theorem aYx(b:List Bx)(hb:b.length<1000000000){K:KT}(hK:K (iN (opK anB e a b).1) [flO (.sb (flg (opK anB e a b).2))]):AC 235 [.op 0 0,.v (.int .i64 1),iN a,iN b] [flO (.sb (flg e))] K:=by
 refine hJ (aXr rfl rfl ?_);rcases he with rfl|rfl
 ·obtain⟨h1,h2⟩:=aXm anB a b;rw[h1,h2]at hK;have hm:=fun {K}=>@cr4Int a b ha hb K;generalize iP anB a b=q at*;obtain⟨s,r⟩:=q;simp only at hm hK;rw[aXt]
  all_goals
   (repeat' ((conv=>whnf);first|(with_reducible refine hm ?_)|refine zG ?_|apply zA|intro h|exact zT));all_goals conv=>whnf
   all_goals first
    |exact⟨_,gY,hK⟩
    |(exfalso;simp_all;done)
 ·rw[aXo];rw[Mm]at hK
  all_goals
   (repeat' ((conv=>whnf);first|refine zG ?_|apply zA|intro h|exact zT));all_goals conv=>whnf
   all_goals first
    |exact⟨_,hZ,hK⟩
    |(exfalso;simp_all;done)
theorem aXx(b:Bx){K:KT}(hK:K (iN (opK anB e a [b]).1) [flO (.sb (flg (opK anB e a [b]).2)),.box []]):AC 235 [.op 0 0,.v (.int .i64 1),iN a,.os 1 10 0 1] [flO (.sb (flg e)),.arr 10 [iV b]] K:=by
 refine hJ (aXv rfl rfl ?_);rcases he with rfl|rfl
 ·obtain⟨h1,h2⟩:=aXm anB a [b];rw[h1,h2]at hK;have hm:∀{K:KT},K (.tup [iN (iP anB a [b]).1,.v (.int .i64 (iP anB a [b]).2)]) []->AC 210 [iN a,.lst [iV b]] [] K:=fun h=>cr4Int a [b] ha zx h;generalize iP anB a [b]=q at*;obtain⟨s,r⟩:=q;simp only at hm hK;rw[aXt]
  all_goals
   (repeat' ((conv=>whnf);first|(with_reducible refine hm ?_)|(refine iE (ys:=[iV b]) (aO _) rfl ?_)|refine zG ?_|apply zA|intro h|exact zT));all_goals conv=>whnf
   all_goals first
    |exact⟨_,gY,hK⟩
    |(exfalso;simp_all;done)
 ·rw[aXo];rw[Mm]at hK
  all_goals
   (repeat' ((conv=>whnf);first|(refine iE (ys:=[iV b]) (aO _) rfl ?_)|refine zG ?_|apply zA|intro h|exact zT));all_goals conv=>whnf
   all_goals first
    |exact⟨_,hZ,hK⟩
    |(exfalso;simp_all;done)
theorem aXM(b:Bx){K:KT}(hK:K (iN (opK woB e a [b]).1) [flO (.sb (flg (opK woB e a [b]).2)),.box []]):AC 235 [.op 0 0,.v (.int .i64 2),iN a,.os 1 10 0 1] [flO (.sb (flg e)),.arr 10 [iV b]] K:=by
 refine hJ (aXv rfl rfl ?_);rcases he with rfl|rfl
 ·obtain⟨h1,h2⟩:=aXm woB a [b];rw[h1,h2]at hK;have hm:∀{K:KT},K (.tup [iN (iP woB a [b]).1,.v (.int .i64 (iP woB a [b]).2)]) []->AC 163 [iN a,.lst [iV b]] [] K:=fun h=>cr4Sub a [b] ha zx h;generalize iP woB a [b]=q at*;obtain⟨s,r⟩:=q;simp only at hm hK;rw[aXt]
  all_goals
   (repeat' ((conv=>whnf);first|(with_reducible refine hm ?_)|(refine iE (ys:=[iV b]) (aO _) rfl ?_)|refine zG ?_|apply zA|intro h|exact zT));all_goals conv=>whnf
   all_goals first
    |exact⟨_,gY,hK⟩
    |(exfalso;simp_all;done)
 ·rw[aXo];rw[Mm]at hK
  all_goals
   (repeat' ((conv=>whnf);first|(refine iE (ys:=[iV b]) (aO _) rfl ?_)|refine zG ?_|apply zA|intro h|exact zT));all_goals conv=>whnf
   all_goals first
    |exact⟨_,hZ,hK⟩
    |(exfalso;simp_all;done)
end
theorem aXN{e:Int}(he:E03 e)(l:List Bx)(hn:e≠0->l=[]){K:KT}(hK:K (.tup [iN l,.v (.int .i64 e)]) [flO (.sb (flg e))]):AC 237 [.op 0 0,iN l] [flO (.sb (flg e))] K:=by
 refine hJ (aYj rfl rfl ?_);rcases he with rfl|rfl
 ·rw[aXt]
  all_goals
   (repeat' ((conv=>whnf);first|refine zG ?_|apply zA|intro h|exact zT));all_goals conv=>whnf
   all_goals first
    |exact⟨_,gY,hK⟩
    |(exfalso;simp_all;done)
 ·rw[aXo];rw[hn zd]at hK
  all_goals
   (repeat' ((conv=>whnf);first|refine zG ?_|apply zA|intro h|exact zT));all_goals conv=>whnf
   all_goals first
    |exact⟨_,hU hZ gY,hK⟩
    |(exfalso;simp_all;done)
theorem aYY(l:List Mv)(hl:l.length<1000000000)(s:List Bx)(hs:s.length<1000000000){K:KT}(hK:K (.tup [iN (K1 l s).1,.v (.int .i64 (K1 l s).2)]) []):AC 162 [lQ l,iN s] [] K:=by
 refine hJ (aYi rfl rfl ?_);unfold K1 at hK;have hm:∀{K:KT},K (iN (kN 0 (jK s)).1) [flO (.sb (flg (kN 0 (jK s)).2))]->AC 235 [.op 0 0,.v (.int .i64 0),iN s,.nils] [flO (.sb false)] K:=fun h=>ACall.args (ys:=[.op 0 0,.v (.int .i64 0),iN s,.lst []]) ⟨Weak.refl,gY,gY,hZ,trivial⟩ (aXp (.inl rfl) s hs [] zd (by rw[aXy];exact h));have hto:=T9 s;have h03:E03 (kN 0 (jK s)).2:=by rw[<-aXy];exact aXh _ (.inl rfl) _ _
 generalize kN 0 (jK s)=g at*;obtain⟨to,e1⟩:=g;simp only at hK hm hto h03;have htl:=(kU hto).len;(repeat' ((conv=>whnf);first|(with_reducible first|refine hm ?_|refine cr3Full ?_)|(refine iE (ys:=[iV fullB]) (aO _) rfl ?_)|refine zG ?_|apply zA|intro h|exact zT));all_goals conv=>whnf
 refine gV (Nat×List Bx×List Bx×Int) (fun g=>⟨1,[(0,flO (.sb (flg g.2.2.2)))],[(0,lQ l),(1,iN to),(6,.op 0 0),(7,iN g.2.2.1),(8,iN g.2.1),(9,.v (.int .i64 g.1))]⟩) (fun g=>g.1<=l.length/\PreI g.2/\E03 g.2.2.2/\Ka to l ([],[fullB],e1)=Ka to (l.drop g.1) g.2) (fun g=>l.length-g.1) (0,[],[fullB],e1) ⟨aK _,⟨jP,Yq⟩,h03,by rw[bP]⟩ ?_ ?_
 ·exact leA
 rintro⟨k,o,r,c⟩ ⟨hk,hi,hc,hinv⟩
 simp only at hk hi hc hinv⊢;have hol:=(kU hi.out).len;have hrl:=(kU hi.rest).len;simp only at hol hrl;rcases aD k l.length with hkl|hkl
 ·obtain⟨x,hx⟩:=gex hkl;have hst:=aJu to hx (o,r,c);have hsi:=aQZ to x hi;have hsc:=aYs to x (s:=(o,r,c)) hc;unfold K2 at hst hsi hsc;by_cases hxo:x.ok
  ·have v1:∀{K:KT},K (.sb true) []->AC 160 [nR x] [] K:=fun h=>aXj _ (by rw[decide_eq_true hxo];exact h);rw[aH hxo]at hst hsi hsc;simp only at hst hsi hsc;have z1:=fun {K}=>@aXx c hc r zo x.frm K;have l1:=xW anB c r [x.frm];have h1:E03 _:=aXh anB hc r [x.frm];generalize opK anB c r [x.frm]=q1 at*;obtain⟨p1,c1⟩:=q1;simp only at z1 hst hsi hsc l1 h1;have z2:=fun {K}=>@aXx c1 h1 to zo x.to K;have l2:=xW anB c1 to [x.to];have i2:=aQT (s:=to) hxo.1.2 c1;have h2:E03 _:=aXh anB h1 to [x.to];generalize opK anB c1 to [x.to]=q2 at*;obtain⟨p2,c2⟩:=q2;simp only at z2 hst hsi hsc l2 i2 h2;have z3:∀{K:KT},K (iN (shL x.turn p2)) []->AC 236 [iN p2,iV x.to,iV x.frm] [] K:=fun h=>aZa x.turn (Mv.ok_turn hxo) p2 zo i2 h;have l3:=aJM x.turn p2;generalize shL x.turn p2=p3 at*;have z4:=fun {K}=>@aYx c2 h2 p1 zo p3 zo K;have l4:=xW anB c2 p1 p3;have h4:E03 _:=aXh anB h2 p1 p3;generalize opK anB c2 p1 p3=q4 at*;obtain⟨p4,c4⟩:=q4;simp only at z4 hst hsi hsc l4 h4;have z5:=fun {K}=>@aXp c4 h4 o zo p4 zo K;have h5:E03 _:=aXh orB h4 o p4;generalize opK orB c4 o p4=q5 at*;obtain⟨p5,c5⟩:=q5;simp only at z5 hst hsi hsc h5;have z6:=fun {K}=>@aXM c5 h5 r zo x.frm K;generalize opK woB c5 r [x.frm]=q6 at*;obtain⟨p6,c6⟩:=q6;simp only at z6 hst hsi hsc;(repeat' ((conv=>whnf);first|(with_reducible first|refine iI hkl ?_|refine iH hx ?_)|(refine v1 ?_)|(refine z1 ?_)|(refine z2 ?_)|(refine z3 ?_)|(refine z4 ?_)|(refine z5 ?_)|(refine z6 ?_)|refine zG ?_|apply zA|intro h|exact zT));all_goals conv=>whnf
   all_goals
    refine⟨(k+1,p5,p6,c6),⟨hkl,hsi,hsc,hinv.trans hst⟩,by simp only;omega,?_⟩;simp only;rw[aN k,aM];exact leA
  ·have v1:∀{K:KT},K (.sb false) []->AC 160 [nR x] [] K:=fun h=>aXj _ (by rw[decide_eq_false hxo];exact h);rw[aF hxo]at hst hsi;(repeat' ((conv=>whnf);first|(with_reducible first|refine iI hkl ?_|refine iH hx ?_)|(refine v1 ?_)|refine zG ?_|apply zA|intro h|exact zT));all_goals conv=>whnf
   refine⟨(k+1,o,r,c),⟨hkl,hi,hc,hinv.trans hst⟩,by simp only;omega,?_⟩;simp only;rw[aN k,aM];exact leA
 ·have he:Ka to (l.drop k) (o,r,c)=(o,r,c):=by rw[bO hkl];rfl
  rw[he]at hinv;rw[hinv]at hK;unfold aFJ at hK;simp only at hK;have z1:=fun {K}=>@aYx c hc r zo to zo K;have l1:=xW anB c r to;have h1:E03 _:=aXh anB hc r to;generalize opK anB c r to=q1 at*;obtain⟨p1,c1⟩:=q1;simp only at z1 hK l1 h1;have z2:=fun {K}=>@aXp c1 h1 o zo p1 zo K;have h2:E03 _:=aXh orB h1 o p1;have hfe:=@Uv orB c1 o p1;generalize opK orB c1 o p1=q2 at*;obtain⟨p2,c2⟩:=q2;simp only at z2 hK hfe h2;have z3:=fun {K}=>@aXN c2 h2 p2 hfe K;(repeat' ((conv=>whnf);first|(refine z1 ?_)|(refine z2 ?_)|(refine z3 ?_)|refine zG ?_|apply zA|intro h|exact zT));all_goals conv=>whnf
  exact⟨_,gY,hK⟩
theorem aYZ(l:List Mv)(hl:l.length<1000000000)(s:List Bx)(hs:s.length<1000000000){K:KT}(hK:K (.tup [iN (Se (G7 l s)).1,.v (.int .i64 (Se (G7 l s)).2)]) []):AC 95 [lQ l,iN s] [] K:=by
 refine hJ (aXD rfl rfl ?_);rw[<-aJL]at hK;have hp:=fun {K}=>@aYY l hl s hs K;have hps:=aEq l s;have hpn:=aJw l s;generalize K1 l s=g at*;obtain⟨o0,e0⟩:=g;simp only at hp hps hpn;(repeat' ((conv=>whnf);first|(with_reducible refine hp ?_)|refine zG ?_|apply zA|intro h|exact zT));all_goals conv=>whnf
 refine gV (Nat×List Bx×Int) (fun g=>⟨0,[],[(0,lQ l),(6,iN g.2.1),(7,.v (.int .i64 g.2.2)),(8,.v (.int .i64 g.1))]⟩) (fun g=>g.1<=l.length/\(jW g.2.1=true/\(g.2.2≠0->g.2.1=[]))/\Hq l (o0,e0)=Hq (l.drop g.1) g.2) (fun g=>l.length-g.1) (0,o0,e0) ⟨aK _,⟨hps,hpn⟩,by rw[bP]⟩ ?_ ?_
 ·exact leA
 rintro⟨k,o,c⟩ ⟨hk,⟨ho,hne⟩,hinv⟩
 simp only at hk ho hne hinv⊢;have hol:=(kU ho).len;by_cases h0:c=0
 case neg=>
  rw[hne h0,aEH _ c h0]at hinv;rw[hinv]at hK;have hno:o=[]:=hne h0;subst hno;(repeat' ((conv=>whnf);first|refine zG ?_|apply zA|intro h|exact zT));all_goals conv=>whnf
  all_goals first
   |exact⟨_,gY,hK⟩
   |(exfalso;omega)
 subst h0;rcases aD k l.length with hkl|hkl
 ·obtain⟨x,hx⟩:=gex hkl;have hst:=aJK hx (o,0);have hsi:=aRg x (s:=(o,0)) ho;unfold F5 at hst hsi;by_cases hxo:x.ok
  ·have v1:∀{K:KT},K (.sb true) []->AC 160 [nR x] [] K:=fun h=>aXj _ (by rw[decide_eq_true hxo];exact h);rw[aH hxo]at hst hsi;simp only at hst hsi;have hcp:iP woB o [x.to]=opK woB 0 o [x.to]:=by
    rw[aXw];by_cases h1:(iP woB o [x.to]).2=0
    ·rw[aH h1]
    ·rw[aF h1];exact Prod.ext (aAO h1) rfl
   have z1:∀{K:KT},K (.tup [iN (opK woB 0 o [x.to]).1,.v (.int .i64 (opK woB 0 o [x.to]).2)]) []->AC 163 [iN o,.lst [iV x.to]] [] K:=fun h=>cr4Sub o [x.to] zo zx (by rw[hcp];exact h);have hne2:=@Uv woB 0 o [x.to];generalize opK woB 0 o [x.to]=q1 at*;obtain⟨p1,c1⟩:=q1;simp only at z1 hst hsi hne2;(repeat' ((conv=>whnf);first|(with_reducible first|refine iI hkl ?_|refine iH hx ?_)|(refine v1 ?_)|(refine z1 ?_)|(refine iE (ys:=[iV x.to]) (aO _) rfl ?_)|refine zG ?_|apply zA|intro h|exact zT));all_goals conv=>whnf
   all_goals first
    |(refine⟨(k+1,p1,c1),⟨hkl,⟨hsi,hne2⟩,hinv.trans hst⟩,by simp only;omega,?_⟩
      simp only;rw[aN k,aM];exact leA)
    |(exfalso;omega)
  ·have v1:∀{K:KT},K (.sb false) []->AC 160 [nR x] [] K:=fun h=>aXj _ (by rw[decide_eq_false hxo];exact h);rw[aF hxo]at hst hsi;(repeat' ((conv=>whnf);first|(with_reducible first|refine iI hkl ?_|refine iH hx ?_)|(refine v1 ?_)|refine zG ?_|apply zA|intro h|exact zT));all_goals conv=>whnf
   all_goals first
    |(refine⟨(k+1,o,0),⟨hkl,⟨ho,hne⟩,hinv.trans hst⟩,by simp only;omega,?_⟩
      simp only;rw[aN k,aM];exact leA)
    |(exfalso;omega)
 ·have he:Hq (l.drop k) (o,0)=(o,0):=by rw[bO hkl];rfl
  rw[he]at hinv;rw[hinv]at hK;simp only at hK;(repeat' ((conv=>whnf);first|refine zG ?_|apply zA|intro h|exact zT));all_goals conv=>whnf
  all_goals first
   |exact⟨_,gY,hK⟩
   |(exfalso;omega)
end Go.Proofs.YtgicddadddhonaaGreatDoor
