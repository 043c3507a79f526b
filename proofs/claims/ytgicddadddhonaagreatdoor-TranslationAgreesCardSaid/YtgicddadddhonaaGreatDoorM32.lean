/- Lemmas. -/
import Derived.Test.YtgicddadddhonaaGreatDoorM31
set_option linter.unusedVariables false
set_option linter.unusedSimpArgs false
set_option maxRecDepth 100000
set_option maxHeartbeats 4000000
noncomputable section
namespace Go.Proofs.YtgicddadddhonaaGreatDoor
open Go Go.Vm
/-! the stable sort by priority gives this order -/
section
variable (f:Nat->Int)
def blk(l:List Nat)(a n:Nat):List Nat:=(List.range n).flatMap fun(c:Nat)=>l.filter fun x=>decide (f x=1000-((a+c:Nat):Int))
end
/-! a part is joined with the set of a class -/
def Fz:List Insp->ByteArray->List Bx->List Insp×Int
 |[],c,s=>([⟨c,s⟩],0)
 |y::r,c,s=>if ltS y.cls c=true then(y::(Fz r c s).1,(Fz r c s).2)else
  if sEq y.cls c=true then(⟨y.cls,(iP orB y.set s).1⟩::r,(iP orB y.set s).2)else(⟨c,s⟩::y::r,0)
def aJA(l:List Insp)(c:ByteArray)(s:List Bx):List Insp×Int:=if sEq c ⟨#[]⟩=true\/s=[]then(l,0)else Fz l c s
theorem sEq_iff{a b:ByteArray}:sEq a b=true↔a=b:=by
 rw[nJ];constructor
 ·intro h;obtain⟨a⟩:=a;obtain⟨b⟩:=b;have:a.toList=b.toList:=by simpa using h
  rw[Array.toList_inj.1 this]
 ·rintro rfl;simp
theorem Oy(a:ByteArray):ltS a a=false:=by
 rw[bY];intro h;have:=(Qa _ _ h).1;rw[show Op.bytesLess a.toList a.toList=ltS a a from rfl,h]at this;cases this
/-! the policy at a minute -/
theorem Fj{α:Type}{f:α->Int}:∀{l:List α},lP f l=0->∀x,x∈l->f x=0
 |[],_,x,hx=>by simp at hx
 |y::l,h,x,hx=>by
  unfold lP at h;split at h
  ·rename_i hn;exact absurd h hn
  ·rename_i hn;rcases aZ.1 hx with rfl|hx
   ·exact Decidable.byContradiction fun h=>hn h
   ·exact Fj h x hx
/-! the sets of the classes as a map -/
def Vc(g:ByteArray->Option (List Bx))(c:ByteArray)(s:List Bx):ByteArray->Option (List Bx):=fun d=>if d=c then some s else g d
structure MapR (g:ByteArray->Option (List Bx)) (l:List Insp):Prop where
 mem:∀x:Insp,x∈l↔g x.cls=some x.set/\x.set≠[]
 set:∀c s,g c=some s->jW s=true
 od:l.Pairwise fun x y=>ltS x.cls y.cls=true
theorem comb_nilR{s:List Bx}(h:jW s=true):iP orB s []=(s,0):=by
 have hl:=(kU h).len;have hc:nL 5 s=true:=by
  unfold jW at h;simp only[aJ]at h;exact h.2.2
 have e:jH orB 5 s []=s:=by
  have:=(tU 5 s zd (fun x hx f hf _=>rR h x hx f hf) (fun h=>by cases h)).1 hc;rw[this,show(jG 5:Bx->Bx)=id from funext fun b=>rC b,List.map_id]
 rw[rW h jP,e,nZ,pM,aF zo,aF zo]
theorem Yj{s:List Bx}(h:jW s=true):iP orB [] s=(s,0):=by
 have e:iP orB [] s=iP orB s []:=by
  rw[rW h jP,rW jP h,tV orB orB 5 [] s s [] zd fun p _=>by simp[orB,Bool.or_comm]]
 rw[e,comb_nilR h]
theorem R2{c:ByteArray}{s:List Bx}:∀{l:List Insp},l.Pairwise (fun x y=>ltS x.cls y.cls=true)->((∀y,y∈l->y.cls≠c)->(Fz l c s).2=0/\(∀x,x∈(Fz l c s).1↔x=⟨c,s⟩\/x∈l))/\
  (∀y,y∈l->y.cls=c->(Fz l c s).2=(iP orB y.set s).2/\∀x,x∈(Fz l c s).1↔x=⟨c,(iP orB y.set s).1⟩\/(x∈l/\x.cls≠c))/\
  ((Fz l c s).1.Pairwise fun x y=>ltS x.cls y.cls=true)/\(∀d,ltS d c=true->(∀y,y∈l->ltS d y.cls=true)->∀y,y∈(Fz l c s).1->ltS d y.cls=true)
 |[],_=>⟨fun _=>⟨rfl,fun x=>by simp[Fz]⟩,fun y h=>by simp at h,by simp[Fz],fun d h _ y hy=>by simp[Fz]at hy;rw[hy];exact h⟩
 |z::r,hs=>by
  obtain⟨s1,s2⟩:=cG.1 hs;obtain⟨i1,i2,i3,i4⟩:=R2 (c:=c) (s:=s) s2;unfold Fz;by_cases h1:ltS z.cls c=true
  ·have hzc:z.cls≠c:=fun e=>by rw[e,Oy]at h1;cases h1
   simp only[h1,if_true];refine⟨fun hn=>?_,fun y hy hc=>?_,cG.2 ⟨i4 _ h1 s1,i3⟩,fun d hd hl y hy=>?_⟩
   ·obtain⟨j1,j2⟩:=i1 fun y hy=>hn y (aS _ hy);exact⟨j1,fun x=>by rw[aZ,j2 x,aZ];exact⟨fun h=>by rcases h with h|h|h<;>simp[h],fun h=>by rcases h with h|h|h<;>simp[h]⟩⟩
   ·rcases aZ.1 hy with rfl|hy
    ·exact absurd hc hzc
    ·obtain⟨j1,j2⟩:=i2 y hy hc;refine⟨j1,fun x=>?_⟩;rw[aZ,j2 x,aZ];constructor
     ·rintro(rfl|h|⟨h,h'⟩)
      ·exact .inr ⟨.inl rfl,hzc⟩
      ·exact .inl h
      ·exact .inr ⟨.inr h,h'⟩
     ·rintro(h|⟨rfl|h,h'⟩)
      ·exact .inr (.inl h)
      ·exact .inl rfl
      ·exact .inr (.inr ⟨h,h'⟩)
   ·rcases aZ.1 hy with rfl|hy
    ·exact hl _ zx
    ·exact i4 d hd (fun w hw=>hl w (aS _ hw)) y hy
  ·rw[aF h1];by_cases h2:sEq z.cls c=true
   ·have hzc:z.cls=c:=sEq_iff.1 h2;have hne:∀w,w∈r->w.cls≠c:=fun w hw e=>by have:=s1 w hw;rw[hzc,e,Oy]at this;cases this
    rw[aH h2];refine⟨fun hn=>absurd hzc (hn z zx),fun y hy hc=>?_,?_,fun d hd hl y hy=>?_⟩
    ·rcases aZ.1 hy with rfl|hy
     ·refine⟨rfl,fun x=>?_⟩;simp only[aZ];constructor
      ·rintro(rfl|h)
       ·exact .inl (by rw[hzc])
       ·exact .inr ⟨.inr h,hne x h⟩
      ·rintro(rfl|⟨rfl|h,h'⟩)
       ·exact .inl (by rw[hzc])
       ·exact absurd hzc h'
       ·exact .inr h
     ·exact absurd hc (hne y hy)
    ·exact cG.2 ⟨fun w hw=>s1 w hw,s2⟩
    ·simp only[aZ]at hy;rcases hy with rfl|hy
     ·exact hl z zx
     ·exact hl y (aS _ hy)
   ·have hzc:z.cls≠c:=fun e=>h2 (sEq_iff.2 e);have hlt:ltS c z.cls=true:=If _ _ (by simpa[ltS]using h1) (by simpa[sEq]using h2);have htr:∀w,w∈r->ltS c w.cls=true:=fun w hw=>Ig _ _ _ hlt (s1 w hw);have hne:∀w,w∈r->w.cls≠c:=fun w hw e=>by have:=htr w hw;rw[e,Oy]at this;cases this
    rw[aF h2];refine⟨fun hn=>⟨rfl,fun x=>by simp⟩,fun y hy hc=>?_,?_,fun d hd hl y hy=>?_⟩
    ·rcases aZ.1 hy with rfl|hy
     ·exact absurd hc hzc
     ·exact absurd hc (hne y hy)
    ·refine cG.2 ⟨fun w hw=>?_,hs⟩;rcases aZ.1 hw with rfl|hw
     ·exact hlt
     ·exact htr w hw
    ·simp only[aZ]at hy;rcases hy with rfl|rfl|hy
     ·exact hd
     ·exact hl _ zx
     ·exact hl y (aS _ hy)
theorem aVM{a b:List Bx}(ha:jW a=true)(hb:jW b=true)(hn:b≠[])(he:(iP orB a b).2=0):(iP orB a b).1≠[]:=by
 rw[rW ha hb]at he⊢;simp only[pM]at he;split at he
 ·cases he
 rename_i hl;simp only[nZ];rw[aF hl];intro hc;rw[Nu]at hc;obtain⟨x,hx⟩:=List.exists_mem_of_ne_nil b hn;obtain⟨p,hp,hpx⟩:=E5 (rR hb x hx);have:=hc p hp;rw[memK_iff.2 ⟨x,hx,hpx⟩]at this;simp[orB]at this
theorem MapR.put{g:ByteArray->Option (List Bx)}{l:List Insp}(h:MapR g l){c:ByteArray}(hc:sEq c ⟨#[]⟩=false){s:List Bx}(hs:jW s=true):
  (aJA l c s).2=(iP orB ((g c).getD []) s).2/\((aJA l c s).2=0->MapR (Vc g c (iP orB ((g c).getD []) s).1) (aJA l c s).1):=by
 unfold aJA;by_cases hs0:s=[]
 ·subst hs0;rw[aH (.inr rfl)];have hg:jW ((g c).getD [])=true:=by
   cases hgc:g c with
   |none=>exact jP
   |some u=>exact h.set c u hgc
  rw[comb_nilR hg];refine⟨rfl,fun _=>⟨fun x=>?_,fun d u hu=>?_,h.od⟩⟩
  ·rw[h.mem x];unfold Vc;by_cases e:x.cls=c
   ·rw[aH e,e];cases hgc:g c with
    |none=>
     simp only[Option.getD_none,bN];exact⟨fun h=>(by cases h.1),fun h=>absurd h.1.symm h.2⟩
    |some u=>simp
   ·rw[aF e]
  ·unfold Vc at hu;split at hu
   ·cases hu;exact hg
   ·exact h.set d u hu
 ·rw[aF (by rw[hc];rintro(h|h);cases h;exact hs0 h)];obtain⟨p1,p2,p3,_⟩:=R2 (c:=c) (s:=s) h.od;by_cases hex:∃y,y∈l/\y.cls=c
  ·obtain⟨y,hy,hyc⟩:=hex;obtain⟨q1,q2⟩:=p2 y hy hyc;have hgy:=((h.mem y).1 hy).1;rw[hyc]at hgy;rw[hgy];simp only[cY];refine⟨q1,fun he=>⟨fun x=>?_,fun d u hu=>?_,p3⟩⟩
   ·rw[q2 x];unfold Vc;by_cases e:x.cls=c
    ·rw[aH e];have hne:=aVM (h.set c _ hgy) hs hs0 (by rw[<-q1];exact he);constructor
     ·rintro(rfl|⟨_,h'⟩)
      ·exact⟨rfl,hne⟩
      ·exact absurd e h'
     ·rintro⟨h1,_⟩
      left;cases x;simp only at e h1;rw[e,bB h1]
    ·rw[aF e,h.mem x];constructor
     ·rintro(rfl|⟨h,_⟩)
      ·exact absurd rfl e
      ·exact h
     ·exact fun h=>.inr ⟨h,e⟩
   ·unfold Vc at hu;split at hu
    ·cases hu;exact jV ..
    ·exact h.set d u hu
  ·have hn:∀y,y∈l->y.cls≠c:=fun y hy e=>hex ⟨y,hy,e⟩;obtain⟨q1,q2⟩:=p1 hn;have hgc:(g c).getD []=[]:=by
    cases hgc:g c with
    |none=>rfl
    |some u=>
     simp only[cY];refine Decidable.byContradiction fun hu=>?_;exact hn ⟨c,u⟩ ((h.mem ⟨c,u⟩).2 ⟨hgc,hu⟩) rfl
   rw[hgc,Yj hs];refine⟨q1,fun he=>⟨fun x=>?_,fun d u hu=>?_,p3⟩⟩
   ·rw[q2 x,h.mem x];unfold Vc;by_cases e:x.cls=c
    ·rw[aH e];constructor
     ·rintro(rfl|⟨h1,h2⟩)
      ·exact⟨rfl,hs0⟩
      ·rw[e]at h1;rw[h1]at hgc;exact absurd hgc h2
     ·rintro⟨h1,_⟩
      left;cases x;simp only at e h1;rw[e,bB h1]
    ·rw[aF e];constructor
     ·rintro(rfl|h)
      ·exact absurd rfl e
      ·exact h
     ·exact .inr
   ·unfold Vc at hu;split at hu
    ·cases hu;exact hs
    ·exact h.set d u hu
def wL(t:Tp)(v:Int):Bool:=decide (0<=mY t v)||t.pools.any fun p=>p.has v
def Fd(x q:Pb):Bool:=sEq q.edge x.edge&&(decide (q.proto=x.proto)&&((decide (q.addr=x.addr)&&decide (q.port=x.port))||(decide (q.real=x.real)&&decide (q.rport=x.rport))))
def sP(t:Tp)(before:List Pb)(x:Pb):Int:=
 if wL t x.addr=true then 7 else if mY t x.real<0 then 19 else if mY t x.real=jX t.edges x.edge then 2 else if before.any (Fd x)=true then 12 else 0
def Dz(t:Tp)(i:Nt)(before:List Hn)(x:Hn):Int:=
 if wL t x.addr=true then 7 else if(i.pubs.any fun p=>sEq p.edge x.edge&&decide (p.addr=x.addr))=true then 12 else if(before.any fun q=>sEq q.edge x.edge&&decide (q.addr=x.addr))=true then 12 else 0
def rO{α:Type}(f:List α->α->Int):List α->List α->Int
 |_,[]=>0
 |b,x::l=>if f b x≠0 then f b x else rO f (b++[x]) l
theorem uB{α:Type}{f:List α->α->Int}{l:List α}{n:Nat}{x:α}(h:l[n]? =some x):rO f (l.take n) (l.drop n)=if f (l.take n) x≠0 then f (l.take n) x else rO f (l.take (n+1)) (l.drop (n+1)):=by
 have hn:=(aP.1 h).1;rw[bA hn];have e:l[n]=x:=(aP.1 h).2;rw[rO,e,bE,h];rfl
theorem Du{α:Type}{f:List α->α->Int}{l:List α}{n:Nat}(h:l.length<=n):rO f (l.take n) (l.drop n)=0:=by
 rw[bO h];rfl
structure Hi where
 mt:Bx
 addr:Int
 ports:Rg
def protos:List Rg:=[mkR 6 6,mkR 17 17,mkR 1 1,mkR 0 0,mkR 2 5,mkR 7 16,mkR 18 255]
def wH(h:Hn)(r:Rg)(n:Nat):Hi:=⟨⟨r,mkR 0 4294967295,protos.getD n zR,mkR 0 65535,mkR 0 65535⟩,h.addr,if n<3 then h.ports else zR⟩
def oI(h:Hn)(r:Rg):List Hi:=(List.range 7).map (wH h r)
def vO(t:Tp)(i:Nt)(h:Hn):List Hi:=(kJ t i h.grp).1.flatMap (oI h)
def uE(t:Tp)(i:Nt)(e:Ed):List Hi:=i.hids.flatMap fun h=>if sEq h.edge e.name=true then vO t i h else []
def trP(t:Tp)(i:Nt):Int:=
 if tJ t i≠0 then tJ t i else if rO (sP t) [] i.pubs≠0 then rO (sP t) [] i.pubs else if rO (Dz t i) [] i.hids≠0 then rO (Dz t i) [] i.hids else if(t.edges.any fun e=>decide (256<(uE t i e).length))=true then 3 else 0
def lI(p:Pb):Mv:=⟨⟨mkR 0 4294967295,mkR p.addr p.addr,mkR p.proto p.proto,mkR 0 65535,mkR p.port p.port⟩,⟨mkR 0 4294967295,mkR p.real p.real,mkR p.proto p.proto,mkR 0 65535,mkR p.rport p.rport⟩⟩
def qB(i:Nt)(e:Ed):List Mv:=(i.pubs.filter fun p=>sEq p.edge e.name).map lI
def pG(t:Tp)(i:Nt)(n:Int):Int:=if trP t i≠0 then trP t i else if n<0\/(t.edges.length:Int)<=n then 2 else 0
def Y9(t:Tp)(i:Nt)(n:Nat):List Mv:=match t.edges[n]? with
 |some e=>qB i e
 |none=>[]
def Yw(t:Tp)(i:Nt)(n:Nat):List Hi:=match t.edges[n]? with
 |some e=>uE t i e
 |none=>[]
theorem Hu{t:Tp}(hc:mE t=true){n:Nat}{e:Ed}(he:t.edges[n]? =some e)(s:ByteArray):(jX t.edges s=(n:Int))↔sEq s e.name=true:=by
 obtain⟨ht,_⟩:=compB_iff.1 hc;have h1:=(ht.edge n e he).2;constructor
 ·intro h;obtain⟨x,hx,hp⟩:=Gt (p:=fun d:Ed=>sEq d.name s) h;rw[he]at hx;cases hx;exact sEq_iff.2 (sEq_iff.1 hp).symm
 ·intro h;rw[sEq_iff.1 h];exact h1
theorem nD{a b:Int}(h0:0<=a)(h1:a<=4294967295)(h2:0<=b)(h3:b<=4294967295):(mkR a b).lo=a/\(mkR a b).hi=b:=⟨kI h0 h1 h2 h3,kP h0 h1 h2 h3⟩
structure PbB (p:Pb):Prop where
 a0:0<=p.addr
 a1:p.addr<=4294967295
 r0:0<=p.real
 r1:p.real<=4294967295
 o0:0<=p.proto
 o1:p.proto<=255
 t0:0<=p.port
 t1:p.port<=65535
 q0:0<=p.rport
 q1:p.rport<=65535
theorem uI{p:Pb}(h:PbB p):((lI p).frm.r0.lo=0/\(lI p).frm.r0.hi=4294967295)/\((lI p).frm.r1.lo=p.addr/\(lI p).frm.r1.hi=p.addr)/\((lI p).frm.r2.lo=p.proto/\(lI p).frm.r2.hi=p.proto)/\((lI p).frm.r3.lo=0/\(lI p).frm.r3.hi=65535)/\((lI p).frm.r4.lo=p.port/\(lI p).frm.r4.hi=p.port)/\
  ((lI p).to.r0.lo=0/\(lI p).to.r0.hi=4294967295)/\((lI p).to.r1.lo=p.real/\(lI p).to.r1.hi=p.real)/\((lI p).to.r2.lo=p.proto/\(lI p).to.r2.hi=p.proto)/\((lI p).to.r3.lo=0/\(lI p).to.r3.hi=65535)/\((lI p).to.r4.lo=p.rport/\(lI p).to.r4.hi=p.rport):=by
 obtain⟨a0,a1,r0,r1,o0,o1,t0,t1,q0,q1⟩:=h;unfold lI;refine⟨nD ?_ ?_ ?_ ?_,nD ?_ ?_ ?_ ?_,nD ?_ ?_ ?_ ?_,nD ?_ ?_ ?_ ?_,nD ?_ ?_ ?_ ?_,nD ?_ ?_ ?_ ?_,nD ?_ ?_ ?_ ?_,nD ?_ ?_ ?_ ?_,nD ?_ ?_ ?_ ?_,nD ?_ ?_ ?_ ?_⟩<;>omega
theorem W8{p:Pb}(h:PbB p):(lI p).ok:=by
 obtain⟨⟨a,a'⟩,⟨b,b'⟩,⟨c,c'⟩,⟨d,d'⟩,⟨e,e'⟩,⟨f,f'⟩,⟨g,g'⟩,⟨k,k'⟩,⟨l,l'⟩,m,m'⟩:=uI h;obtain⟨a0,a1,r0,r1,o0,o1,u0,u1,q0,q1⟩:=h;have t0:iX 0=4294967295:=rfl;have t1:iX 1=4294967295:=rfl;have t2:iX 2=255:=rfl;have t3:iX 3=65535:=rfl;have t4:iX 4=65535:=rfl;unfold Mv.ok Bx.ok Rg.okF tM;rw[a,a',b,b',c,c',d,d',e,e',f,f',g,g',k,k',l,l',m,m',t0,t1,t2,t3,t4];omega
theorem aCT{p:Pb}(h:PbB p){g:Hd}(ho:g.Ok):oG (lI p).frm g=true↔g.dst=p.addr/\g.pro=p.proto/\g.dp=p.port:=by
 have hk:=(W8 h).1.1;obtain⟨⟨a,a'⟩,⟨b,b'⟩,⟨c,c'⟩,⟨d,d'⟩,⟨e,e'⟩,_⟩:=uI h;obtain⟨s0,s1,d0,d1,p0,p1,x0,x1,y0,y1⟩:=ho;rw[pI,a,a',b,b',c,c',d,d',e,e'];constructor
 ·rintro⟨h0,h1,h2,h3,h4,_⟩;omega
 ·rintro⟨h0,h1,h2⟩;exact⟨by omega,by omega,by omega,by omega,by omega,hk⟩
theorem aCU{p:Pb}(h:PbB p){g:Hd}(ho:g.Ok):oG (lI p).to g=true↔g.dst=p.real/\g.pro=p.proto/\g.dp=p.rport:=by
 have hk:=(W8 h).1.2;obtain⟨_,_,_,_,_,⟨a,a'⟩,⟨b,b'⟩,⟨c,c'⟩,⟨d,d'⟩,e,e'⟩:=uI h;obtain⟨s0,s1,d0,d1,p0,p1,x0,x1,y0,y1⟩:=ho;rw[pI,a,a',b,b',c,c',d,d',e,e'];constructor
 ·rintro⟨h0,h1,h2,h3,h4,_⟩;omega
 ·rintro⟨h0,h1,h2⟩;exact⟨by omega,by omega,by omega,by omega,by omega,hk⟩
theorem aKS{p:Pb}(h:PbB p){g:Hd}(hc:g.dst=p.addr/\g.pro=p.proto/\g.dp=p.port):shH (lI p) g=⟨g.src,p.real,p.proto,g.sp,p.rport⟩:=by
 obtain⟨⟨a,a'⟩,⟨b,b'⟩,⟨c,c'⟩,⟨d,d'⟩,⟨e,e'⟩,⟨f,f'⟩,⟨j,j'⟩,⟨k,k'⟩,⟨l,l'⟩,m,m'⟩:=uI h;unfold shH;rw[a,b,c,d,e,f,j,k,l,m]
 congr 1<;>omega
theorem Zy{t:Tp}{i:Nt}(h:trP t i=0){p:Pb}(hp:i.pubs[0]? =some p):wL t p.addr=false/\0<=mY t p.real:=by
 unfold trP at h;split at h
 ·rename_i h1;exact absurd h h1
 split at h
 ·rename_i h1;exact absurd h h1
 rename_i h1;have h1:rO (sP t) [] i.pubs=0:=Decidable.byContradiction h1;have:=uB (f:=sP t) hp;rw[cA,bP,h1]at this;have h2:sP t [] p=0:=Decidable.byContradiction fun h3=>by rw[aH h3]at this;exact h3 this.symm
 unfold sP at h2;split at h2
 ·cases h2
 rename_i g1;split at h2
 ·cases h2
 rename_i g2;exact⟨by simpa using g1,by omega⟩
theorem Xo{t:Tp}{i:Nt}(h:trP t i=0){p:Pb}(hp:i.pubs=[p])(hb:PbB p){e:Ed}(he:sEq p.edge e.name=true){src sp:Int}(s0:0<=src)(s1:src<=4294967295)(q0:0<=sp)(q1:sp<=65535):
  nT (qB i e) ⟨src,p.addr,p.proto,sp,p.port⟩=(⟨src,p.real,p.proto,sp,p.rport⟩,true)/\nT (qB i e) ⟨src,p.real,p.proto,sp,p.rport⟩=(zHd,false)/\0<=mY t p.real:=by
 obtain⟨h1,h2⟩:=Zy h (p:=p) (by rw[hp];rfl);have hm:qB i e=[lI p]:=by unfold qB;rw[hp,gL (p:=fun q:Pb=>sEq q.edge e.name) he];rfl
 have o1:(⟨src,p.addr,p.proto,sp,p.port⟩:Hd).Ok:=⟨s0,s1,hb.a0,hb.a1,hb.o0,hb.o1,q0,q1,hb.t0,hb.t1⟩
 have o2:(⟨src,p.real,p.proto,sp,p.rport⟩:Hd).Ok:=⟨s0,s1,hb.r0,hb.r1,hb.o0,hb.o1,q0,q1,hb.q0,hb.q1⟩
 have hne:p.addr≠p.real:=fun e=>by
  unfold wL at h1;rw[e,decide_eq_true h2]at h1;cases h1
 have c1:oG (lI p).to ⟨src,p.addr,p.proto,sp,p.port⟩=false:=by
  rw[bY,ne_eq,aCU hb o1]
  rintro⟨h3,_⟩;exact hne h3
 have c2:oG (lI p).frm ⟨src,p.addr,p.proto,sp,p.port⟩=true:=(aCT hb o1).2 ⟨rfl,rfl,rfl⟩;have c3:oG (lI p).to ⟨src,p.real,p.proto,sp,p.rport⟩=true:=(aCU hb o2).2 ⟨rfl,rfl,rfl⟩;have hk:=W8 hb;rw[hm];refine⟨?_,?_,h2⟩
 ·unfold nT Nk;rw[aF (by simp[Ku,c1])];rw[List.find?_cons_of_pos (by simp[yG,c2,hk])];exact congrArg (fun x=>(x,true)) (aKS hb (g:=⟨src,p.addr,p.proto,sp,p.port⟩) ⟨rfl,rfl,rfl⟩)
 ·unfold nT;rw[aH (by simp[Ku,c3,hk])]
/-! at an edge no two different headers become the same one -/
theorem Q4{α:Type}{f:List α->α->Int}:∀{b l:List α},rO f b l=0->∀(n:Nat) x,l[n]? =some x->f (b++l.take n) x=0
 |b,[],_,n,x,h=>by simp at h
 |b,y::l,h0,n,x,h=>by
  rw[rO]at h0;split at h0
  ·rename_i h1;exact absurd h0 h1
  ·rename_i h1;cases n with
   |zero=>
    simp only[eI,bN]at h;subst h;rw[cA,bG];exact Decidable.byContradiction h1
   |succ n=>
    have:=Q4 h0 n x (by simpa using h)
    rwa[gK,<-List.singleton_append,<-cM]
theorem aHq{t:Tp}{i:Nt}(h:trP t i=0)(hb:∀p,p∈i.pubs->PbB p)(e:Ed){g k:Hd}(hg:g.Ok)(hk:k.Ok)(h1:(nT (qB i e) g).2=true)(h2:(nT (qB i e) k).2=true)(he:(nT (qB i e) g).1=(nT (qB i e) k).1):g=k:=by
 have hall:rO (sP t) [] i.pubs=0:=by
  unfold trP at h;split at h
  ·rename_i h1;exact absurd h h1
  split at h
  ·rename_i h1;exact absurd h h1
  rename_i h1;exact Decidable.byContradiction h1
 have hdis:∀(a b:Nat) p q,a<b->i.pubs[a]? =some p->i.pubs[b]? =some q->sEq p.edge e.name=true->sEq q.edge e.name=true->Fd q p=false:=fun a b p q hab hp hq _ _=>by
  have:=Q4 hall b q hq;rw[dB]at this;unfold sP at this;split at this
  ·cases this
  split at this
  ·cases this
  split at this
  ·cases this
  split at this
  ·cases this
  rename_i h4;rw[bY];intro h5;refine h4 (bR.2 ⟨p,?_,h5⟩);refine aG (i:=a) ?_;rw[eY hab];exact hp
 -- what a header becomes
 have key:∀{x:Hd},x.Ok->(nT (qB i e) x).2=true->((∀p,p∈i.pubs->sEq p.edge e.name=true->¬(x.dst=p.real/\x.pro=p.proto/\x.dp=p.rport))/\
   ((nT (qB i e) x).1=x\/∃(n:Nat) (p:Pb),i.pubs[n]? =some p/\sEq p.edge e.name=true/\(x.dst=p.addr/\x.pro=p.proto/\x.dp=p.port)/\(nT (qB i e) x).1=⟨x.src,p.real,p.proto,x.sp,p.rport⟩)):=fun {x} hx ha=>by
  unfold nT at ha⊢;split at ha
  ·cases ha
  rename_i hno;rw[aF hno];refine⟨fun p hp hpe hc=>hno (bR.2 ⟨lI p,bQ.2 ⟨p,cR.2 ⟨hp,hpe⟩,rfl⟩,?_⟩),?_⟩
  ·unfold Ku;rw[decide_eq_true (W8 (hb p hp)),dQ];exact(aCU (hb p hp) hx).2 hc
  ·unfold Nk;cases hf:(qB i e).find? (yG x)with
   |none=>exact .inl rfl
   |some m=>
    right;obtain⟨p,hp,rfl⟩:=bQ.1 (List.mem_of_find?_eq_some hf);obtain⟨hp,hpe⟩:=cR.1 hp;obtain⟨n,hn⟩:=bH.1 hp;have hh:=List.find?_some hf;unfold yG at hh;rw[aJ]at hh;have hc:=(aCT (hb p hp) hx).1 hh.2;exact⟨n,p,hn,hpe,hc,aKS (hb p hp) hc⟩
 obtain⟨n1,c1⟩:=key hg h1;obtain⟨n2,c2⟩:=key hk h2;have fields:∀{x y:Hd},x.src=y.src->x.dst=y.dst->x.pro=y.pro->x.sp=y.sp->x.dp=y.dp->x=y:=fun {x y} a b c d e=>by
  cases x;cases y;simp only at a b c d e;subst a;subst b;subst c;subst d;subst e;rfl
 rcases c1 with c1|⟨a,p,ha,pe,⟨pa,pb,pc⟩,c1⟩<;>rcases c2 with c2|⟨b,q,hb',qe,⟨qa,qb,qc⟩,c2⟩
 ·rw[c1,c2]at he;exact he
 ·rw[c1,c2]at he;exact absurd ⟨by rw[he],by rw[he],by rw[he]⟩ (n1 q (aG hb') qe)
 ·rw[c1,c2]at he;exact absurd ⟨by rw[<-he],by rw[<-he],by rw[<-he]⟩ (n2 p (aG ha) pe)
 ·rw[c1,c2]at he;simp only[Hd.mk.injEq]at he;obtain⟨e1,e2,e3,e4,e5⟩:=he;have hab:a=b:=by
   rcases Nat.lt_trichotomy a b with hlt|heq|hlt
   ·have:=hdis a b p q hlt ha hb' pe qe;unfold Fd at this;rw[sEq_iff.2 ((sEq_iff.1 pe).trans (sEq_iff.1 qe).symm),decide_eq_true e3,decide_eq_true e2,decide_eq_true e5]at this;simp at this
   ·exact heq
   ·have:=hdis b a q p hlt hb' ha qe pe;unfold Fd at this;rw[sEq_iff.2 ((sEq_iff.1 qe).trans (sEq_iff.1 pe).symm),decide_eq_true e3.symm,decide_eq_true e2.symm,decide_eq_true e5.symm]at this;simp at this
  subst hab;rw[ha]at hb';cases hb';exact fields e1 zo zo e4 zo
abbrev E8(g:Hd):List AV:=[.v (.int .u32 g.src),.v (.int .u32 g.dst),.v (.int .u8 g.pro),.v (.int .u16 g.sp),.v (.int .u16 g.dp)]
theorem aKo(b:Bx)(g:Hd)(ho:g.Ok){K:KT}(hK:K (.sb (oG b g)) []):AC 56 [iV b,lC g] [] K:=by
 have hv:∀{K:KT},K (.agg [.v (.int .u32 g.src),.v (.int .u32 g.dst),.v (.int .u32 g.pro),.v (.int .u32 g.sp),.v (.int .u32 g.dp)]) []->AC 105 [lC g] [] K:=fun h=>Ti g.src g.dst g.pro g.sp g.dp ⟨ho.s0,ho.d0,ho.p0,ho.a0,ho.b0,ho.s1,ho.d1,ho.p1,ho.a1,ho.b1⟩ h;refine gZ (aPX rfl rfl ?_);(repeat' ((conv=>whnf);first|(with_reducible first|refine tL b ?_|refine hv ?_|refine Lp.times 6 ?_)|(refine kH zd ?_)|(refine iC rfl ?_)|refine zG ?_|apply zA|intro h|exact zT));all_goals conv=>whnf
 all_goals first
  |exact kE hK ((pI b g).2 (by repeat' (first|with_reducible assumption|omega|apply And.intro)))
  |(refine iU hK ?_;rw[bY,ne_eq,pI];omega)
  |(refine iU hK ?_;rw[bY,ne_eq,pI];simp_all)
theorem aLB(e:Ed)(v:Int)(v0:0<=v)(v1:v<=4294967295){K:KT}(hK:K (.sb (!e.pl&&e.pf.has v)) []):AC 201 [lY e,.fp [.v (.int .u32 v)]] [] K:=by
 refine gZ (aIp rfl rfl ?_);(repeat' ((conv=>whnf);first|(with_reducible refine aAR e.pf v v0 v1 ?_)|refine zG ?_|apply zA|intro h|exact zT));all_goals conv=>whnf
 all_goals first
  |exact kB hK (by simp_all)
  |exact iU hK (by simp_all)
  |exact kE hK (by simp_all)
theorem aKp(t:Tp)(v:Int)(v0:0<=v)(v1:v<=4294967295)(hl:t.edges.length<1000000){K:KT}(hK:K (.v (.int .i64 (mY t v))) []):AC 116 [jT t,.v (.int .u32 v)] [] K:=by
 have hc:∀{K:KT},K (.v (.int .i64 (mY t v))) []->AC 199 [.lst (t.edges.map lY),.fn (.func 201) [] [.fp [.v (.int .u32 v)]]] [] K:=fun h=>Vv t.edges _ _ (fun e=> !e.pl&&e.pf.has v) (fun x K h=>aLB x v v0 v1 h) hl h;refine aPY rfl rfl ?_;(repeat' ((conv=>whnf);first|(with_reducible refine hc ?_)|refine zG ?_|apply zA|intro h|exact zT));all_goals conv=>whnf
 exact hK
abbrev nR(m:Mv):AV:=.agg [.v (.int .u32 m.frm.r0.lo),.v (.int .u32 m.frm.r0.hi),.v (.int .u32 m.frm.r1.lo),.v (.int .u32 m.frm.r1.hi),.v (.int .u32 m.frm.r2.lo),.v (.int .u32 m.frm.r2.hi),.v (.int .u32 m.frm.r3.lo),.v (.int .u32 m.frm.r3.hi),.v (.int .u32 m.frm.r4.lo),.v (.int .u32 m.frm.r4.hi),.v (.int .u32 m.to.r0.lo),.v (.int .u32 m.to.r0.hi),.v (.int .u32 m.to.r1.lo),.v (.int .u32 m.to.r1.hi),.v (.int .u32 m.to.r2.lo),.v (.int .u32 m.to.r2.hi),.v (.int .u32 m.to.r3.lo),.v (.int .u32 m.to.r3.hi),.v (.int .u32 m.to.r4.lo),.v (.int .u32 m.to.r4.hi)]
abbrev lQ(l:List Mv):AV:=.lst (l.map nR)
structure BxI (b:Bx):Prop where
 a0:0<=b.r0.lo/\b.r0.lo<=b.r0.hi/\b.r0.hi<=4294967295
 a1:0<=b.r1.lo/\b.r1.lo<=b.r1.hi/\b.r1.hi<=4294967295
 a2:0<=b.r2.lo/\b.r2.lo<=b.r2.hi/\b.r2.hi<=255
 a3:0<=b.r3.lo/\b.r3.lo<=b.r3.hi/\b.r3.hi<=65535
 a4:0<=b.r4.lo/\b.r4.lo<=b.r4.hi/\b.r4.hi<=65535
theorem bxI{b:Bx}(h:b.ok):BxI b:=by
 have h0:=ok_get h 0 zd;have h1:=ok_get h 1 zd;have h2:=ok_get h 2 zd;have h3:=ok_get h 3 zd;have h4:=ok_get h 4 zd;have l0:=b.r0.l0;have l1:=b.r1.l0;have l2:=b.r2.l0;have l3:=b.r3.l0;have l4:=b.r4.l0;simp only[Bx.get,iX]at h0 h1 h2 h3 h4;exact⟨by omega,by omega,by omega,by omega,by omega⟩
theorem Ov(m:Mv){K:KT}(hK:K (.sb (decide m.ok)) []):AC 131 [nR m] [] K:=by
 refine gZ (aIc rfl rfl ?_);by_cases hf:m.frm.ok/\m.to.ok
 case neg=>
  have hn:decide m.ok=false:=decide_eq_false fun h=>hf h.1;(repeat' ((conv=>whnf);first|(refine tL m.frm ?_)|(refine tL m.to ?_)|refine zG ?_|apply zA|intro h|exact zT));all_goals conv=>whnf
  all_goals first
   |exact iU hK hn
   |(exfalso;simp_all;done)
 have v1:∀{K:KT},K (.sb true) []->AC 104 [iV m.frm] [] K:=fun h=>tL _ (by rw[decide_eq_true hf.1];exact h);have v2:∀{K:KT},K (.sb true) []->AC 104 [iV m.to] [] K:=fun h=>tL _ (by rw[decide_eq_true hf.2];exact h);obtain⟨⟨a0,b0,c0⟩,⟨a1,b1,c1⟩,⟨a2,b2,c2⟩,⟨a3,b3,c3⟩,⟨a4,b4,c4⟩⟩:=bxI hf.1;obtain⟨⟨d0,e0,g0⟩,⟨d1,e1,g1⟩,⟨d2,e2,g2⟩,⟨d3,e3,g3⟩,⟨d4,e4,g4⟩⟩:=bxI hf.2;(repeat' ((conv=>whnf);first|(refine v1 ?_)|(refine v2 ?_)|(with_reducible refine Lp.times 6 ?_)|(refine kH zd ?_)|(refine iC rfl ?_)|refine zG ?_|apply zA|intro h|exact zT));all_goals conv=>whnf
 all_goals first
  |exact kE hK (decide_eq_true ⟨hf,by unfold tM;omega,by unfold tM;omega,by unfold tM;omega,by unfold tM;omega,by unfold tM;omega⟩)
  |exact iU hK (decide_eq_false fun h=>by obtain⟨_,k0,k1,k2,k3,k4⟩:=h;unfold tM at k0 k1 k2 k3 k4;omega)
theorem aOS(m:Mv){K:KT}(hK:K (.sb (decide m.ok)) []):AC 103 [.lst [nR m]] [] K:=by
 refine gZ (aHY rfl rfl ?_);(repeat' ((conv=>whnf);first|(with_reducible first|refine Ov m ?_|refine Lp.times 2 ?_)|(refine iB 0 rfl zx ?_)|(refine iC rfl ?_)|(refine iF 0 0 rfl rfl (aK _) (aK _) ?_)|(refine iE (ys:=[]) (aK _) rfl ?_)|refine zG ?_|apply zA|intro h|exact zT));all_goals conv=>whnf
 all_goals first
  |exact kE hK (decide_eq_true zw)
  |exact iU hK (decide_eq_false zw)
theorem aCK(m:Mv){K:KT}(hK:K (.sb (decide m.ok)) []):AC 55 [nR m] [] K:=by
 refine aPH rfl rfl ?_;(repeat' ((conv=>whnf);first|(with_reducible refine aOS m ?_)|refine zG ?_|apply zA|intro h|exact zT));all_goals conv=>whnf
 exact hK
theorem aOR(m:Mv)(g:Hd)(ho:g.Ok){K:KT}(hK:K (.sb (yG g m)) []):AC 171 [nR m,.fp (E8 g)] [] K:=by
 refine gZ (aHW rfl rfl ?_);unfold yG at hK;(repeat' ((conv=>whnf);first|(with_reducible refine Ov m ?_)|(refine aKo m.frm g ho ?_)|refine zG ?_|apply zA|intro h|exact zT));all_goals conv=>whnf
 all_goals first
  |(rw[decide_eq_true zw,dQ]at hK
    exact kB hK rfl)
  |(rw[decide_eq_false zw,fI]at hK
    exact iU hK rfl)
theorem aVq(l:List Mv)(f:FuncId)(cs:List AV)(p:Mv->Bool)(hF:∀(x:Mv) (K:AV->List Vm.Obj->Prop),K (.sb (p x)) []->AC f [nR x,.fp cs] [] K)(hl:l.length<1000000000){K:KT}(hK:K (.v (.int .i64 (jM p l))) []):
  AC 170 [lQ l,.fn (.func f) [] [.fp cs]] [] K:=by
 refine aPu rfl rfl ?_;(repeat' ((conv=>whnf);first|refine zG ?_|apply zA|intro h|exact zT));all_goals conv=>whnf
 refine gV Nat (fun k=>⟨0,[],[(0,lQ l),(1,.fn (.func f) [] [.fp cs]),(7,.v (.int .i64 (l.map nR).length)),(8,.v (.int .i64 k))]⟩) (fun k=>k<=l.length/\∀(i:Nat) y,i<k->l[i]? =some y->p y=false) (fun k=>l.length-k) 0 ⟨aK _,fun i y hi=>absurd hi (bD _)⟩ ?_ ?_
 ·exact leA
 intro k ⟨hk,hinv⟩;rcases aD k l.length with hkl|hkl
 ·obtain⟨r,hr⟩:=gex hkl;(repeat' ((conv=>whnf);first|(with_reducible first|refine iI hkl ?_|refine iH hr ?_|refine hF r _ ?_)|refine zG ?_|apply zA|intro h|exact zT));all_goals conv=>whnf
  ·rw[jN hr h hinv]at hK;exact hK
  ·refine⟨k+1,⟨by omega,jJ hr h hinv⟩,by omega,?_⟩;rw[aN,aM];exact leA
 ·(repeat' ((conv=>whnf);first|refine zG ?_|apply zA|intro h|exact zT));all_goals conv=>whnf
  rw[jS (iL hkl hinv)]at hK;exact hK
theorem aVs(l:List Mv)(g:Hd)(ho:g.Ok)(hl:l.length<1000000000){K:KT}(hK:K (.v (.int .i64 (jM (yG g) l))) []):AC 106 [lQ l,lC g] [] K:=by
 have hc:∀{K:KT},K (.v (.int .i64 (jM (yG g) l))) []->AC 170 [lQ l,.fn (.func 171) [] [.fp (E8 g)]] [] K:=fun h=>aVq l _ _ (yG g) (fun x K h=>aOR x g ho h) hl h;refine aPx rfl rfl ?_;(repeat' ((conv=>whnf);first|(with_reducible refine hc ?_)|refine zG ?_|apply zA|intro h|exact zT));all_goals conv=>whnf
 exact hK
theorem Jx(g:Hd)(ho:g.Ok)(f:Nat)(hf:f<=4){K:KT}(hK:K (.v (.int .u32 (five g.src g.dst g.pro g.sp g.dp f))) []):AC 108 [lC g,.v (.int .i64 f)] [] K:=by
 have hv:∀{K:KT},K (.agg [.v (.int .u32 g.src),.v (.int .u32 g.dst),.v (.int .u32 g.pro),.v (.int .u32 g.sp),.v (.int .u32 g.dp)]) []->AC 105 [lC g] [] K:=fun h=>Ti g.src g.dst g.pro g.sp g.dp ⟨ho.s0,ho.d0,ho.p0,ho.a0,ho.b0,ho.s1,ho.d1,ho.p1,ho.a1,ho.b1⟩ h;refine aId rfl rfl ?_;obtain rfl|rfl|rfl|rfl|rfl:f=0\/f=1\/f=2\/f=3\/f=4:=by omega
 all_goals
  (repeat' ((conv=>whnf);first|(with_reducible refine hv ?_)|(refine kH zd ?_)|(refine iC rfl ?_)|refine zG ?_|apply zA|intro h|exact zT));all_goals conv=>whnf
  exact hK
theorem aFM{α:Type}{p:α->Bool}{l:List α}{x:α}(h:l.find? p=some x):∃k:Nat,l[k]? =some x/\p x=true/\jM p l=k:=by
 obtain⟨h1,k,hk,h2,h3⟩:=List.find?_eq_some_iff_getElem.1 h;refine⟨k,by rw[aE hk,h2],h1,jN (by rw[aE hk,h2]) h1 fun i y hi hy=>?_⟩;obtain⟨hi',rfl⟩:=aP.1 hy;simpa using h3 i hi
theorem aFN{α:Type}{p:α->Bool}{l:List α}(h:l.find? p=none):jM p l= -1:=jS fun i y hy=>by
 have:=List.find?_eq_none.1 h y (aG hy);simpa using this
theorem aVl(l:List Mv)(g:Hd)(ho:g.Ok)(hl:l.length<1000000000){K:KT}(hK:K (lC (Nk l g)) []):AC 57 [lQ l,lC g] [] K:=by
 have hm:=fun {K}=>@aVs l g ho hl K;refine aPj rfl rfl ?_;unfold Nk at hK;cases hf:l.find? (yG g)with
 |none=>
  rw[hf]at hK;simp only at hK;rw[aFN hf]at hm;(repeat' ((conv=>whnf);first|(with_reducible refine hm ?_)|refine zG ?_|apply zA|intro h|exact zT));all_goals conv=>whnf
  all_goals first
   |exact hK
   |(exfalso;omega)
 |some m=>
  rw[hf]at hK;simp only at hK;obtain⟨k,hk,hp,he⟩:=aFM hf;have hkl:=(aP.1 hk).1;rw[he]at hm;unfold yG at hp;rw[aJ,aL]at hp;have hcon:=(pI _ _).1 hp.2;obtain⟨⟨x0,y0⟩,⟨x1,y1⟩,⟨x2,y2⟩,⟨x3,y3⟩,⟨x4,y4⟩,_⟩:=hcon;obtain⟨⟨a0,b0,c0⟩,⟨a1,b1,c1⟩,⟨a2,b2,c2⟩,⟨a3,b3,c3⟩,⟨a4,b4,c4⟩⟩:=bxI hp.1.1.1;obtain⟨⟨d0,e0,g0⟩,⟨d1,e1,g1⟩,⟨d2,e2,g2⟩,⟨d3,e3,g3⟩,⟨d4,e4,g4⟩⟩:=bxI hp.1.1.2;obtain⟨_,k0,k1,k2,k3,k4⟩:=hp.1;unfold tM at k0 k1 k2 k3 k4;obtain⟨s0,s1,u0,u1,p0,p1,z0,z1,w0,w1⟩:=id ho;have n0:0<=m.to.r0.lo+(g.src-m.frm.r0.lo)/\m.to.r0.lo+(g.src-m.frm.r0.lo)<=4294967295:=by omega
  have n1:0<=m.to.r1.lo+(g.dst-m.frm.r1.lo)/\m.to.r1.lo+(g.dst-m.frm.r1.lo)<=4294967295:=by omega
  have n2:0<=m.to.r2.lo+(g.pro-m.frm.r2.lo)/\m.to.r2.lo+(g.pro-m.frm.r2.lo)<=255:=by omega
  have n3:0<=m.to.r3.lo+(g.sp-m.frm.r3.lo)/\m.to.r3.lo+(g.sp-m.frm.r3.lo)<=65535:=by omega
  have n4:0<=m.to.r4.lo+(g.dp-m.frm.r4.lo)/\m.to.r4.lo+(g.dp-m.frm.r4.lo)<=65535:=by omega
  have v0:∀{K:KT},K (.v (.int .u32 g.src)) []->AC 108 [lC g,.v (.int .i64 0)] [] K:=fun h=>Jx g ho 0 zd h;have v1:∀{K:KT},K (.v (.int .u32 g.dst)) []->AC 108 [lC g,.v (.int .i64 1)] [] K:=fun h=>Jx g ho 1 zd h;have v2:∀{K:KT},K (.v (.int .u32 g.pro)) []->AC 108 [lC g,.v (.int .i64 2)] [] K:=fun h=>Jx g ho 2 zd h;have v3:∀{K:KT},K (.v (.int .u32 g.sp)) []->AC 108 [lC g,.v (.int .i64 3)] [] K:=fun h=>Jx g ho 3 zd h;have v4:∀{K:KT},K (.v (.int .u32 g.dp)) []->AC 108 [lC g,.v (.int .i64 4)] [] K:=fun h=>Jx g ho 4 zd h;have q0:∀{K:KT},K (Ff (m.to.r0.lo+(g.src-m.frm.r0.lo)) g.dst g.pro g.sp g.dp) []->AC 107 [lC g,.v (.int .i64 0),.v (.int .u32 (m.to.r0.lo+(g.src-m.frm.r0.lo)))] [] K:=fun h=>Iw 0 zd _ _ _ _ _ _ (by constructor<;>omega) n0.1 n0.2 (by simpa using h);have q1:∀{a:Int} {K:KT},0<=a->a<=4294967295->K (Ff a (m.to.r1.lo+(g.dst-m.frm.r1.lo)) g.pro g.sp g.dp) []->AC 107 [Ff a g.dst g.pro g.sp g.dp,.v (.int .i64 1),.v (.int .u32 (m.to.r1.lo+(g.dst-m.frm.r1.lo)))] [] K:=fun ha hb h=>Iw 1 zd _ _ _ _ _ _ (by constructor<;>omega) n1.1 n1.2 (by simpa using h);have q2:∀{a b:Int} {K:KT},0<=a/\a<=4294967295->0<=b/\b<=4294967295->K (Ff a b (m.to.r2.lo+(g.pro-m.frm.r2.lo)) g.sp g.dp) []->AC 107 [Ff a b g.pro g.sp g.dp,.v (.int .i64 2),.v (.int .u32 (m.to.r2.lo+(g.pro-m.frm.r2.lo)))] [] K:=fun ha hb h=>Iw 2 zd _ _ _ _ _ _ (by constructor<;>omega) n2.1 n2.2 (by simpa using h);have q3:∀{a b c:Int} {K:KT},0<=a/\a<=4294967295->0<=b/\b<=4294967295->0<=c/\c<=255->K (Ff a b c (m.to.r3.lo+(g.sp-m.frm.r3.lo)) g.dp) []->AC 107 [Ff a b c g.sp g.dp,.v (.int .i64 3),.v (.int .u32 (m.to.r3.lo+(g.sp-m.frm.r3.lo)))] [] K:=fun ha hb hc h=>Iw 3 zd _ _ _ _ _ _ (by constructor<;>omega) n3.1 n3.2 (by simpa using h);have q4:∀{a b c d:Int} {K:KT},0<=a/\a<=4294967295->0<=b/\b<=4294967295->0<=c/\c<=255->0<=d/\d<=65535->K (Ff a b c d (m.to.r4.lo+(g.dp-m.frm.r4.lo))) []->AC 107 [Ff a b c d g.dp,.v (.int .i64 4),.v (.int .u32 (m.to.r4.lo+(g.dp-m.frm.r4.lo)))] [] K:=fun ha hb hc hd h=>Iw 4 zd _ _ _ _ _ _ (by constructor<;>omega) n4.1 n4.2 (by simpa using h);(repeat' ((conv=>whnf);first|(with_reducible first|refine hm ?_|refine Lp.times 6 ?_|refine iI hkl ?_|refine iH hk ?_)|(refine kH zd ?_)|(refine iC rfl ?_)|(refine v0 ?_)|(refine v1 ?_)|(refine v2 ?_)|(refine v3 ?_)|(refine v4 ?_)|(refine q0 ?_)|(refine q1 n0.1 n0.2 ?_)|(refine q2 n0 n1 ?_)|(refine q3 n0 n1 n2 ?_)|(refine q4 n0 n1 n2 n3 ?_)|refine zG ?_|apply zA|intro h|exact zT));all_goals conv=>whnf
  all_goals first
   |exact hK
   |(exfalso;omega)
theorem Jw(l:List Mv)(g:Hd)(ho:g.Ok)(hl:l.length<1000000000){K:KT}(hK:K (.tup [lC (nT l g).1,.sb (nT l g).2]) []):AC 17 [lQ l,lC g] [] K:=by
 refine hJ (aPk rfl rfl ?_);(repeat' ((conv=>whnf);first|refine zG ?_|apply zA|intro h|exact zT));all_goals conv=>whnf
 refine gV Nat (fun k=>⟨2,[(0,.box (E8 g)),(1,.box (E8 zHd))],[(0,lQ l),(3,.op 0 0),(4,.op 1 0),(8,lQ l),(9,.v (.int .i64 (l.map nR).length)),(10,.v (.int .i64 k))]⟩) (fun k=>k<=l.length/\∀(i:Nat) y,i<k->l[i]? =some y->Ku g y=false) (fun k=>l.length-k) 0 ⟨aK _,fun i y hi=>absurd hi (bD _)⟩ ?_ ?_
 ·exact leA
 intro k ⟨hk,hinv⟩;rcases aD k l.length with hkl|hkl
 ·obtain⟨m,hm⟩:=gex hkl;have hit:m.ok->oG m.to g=true->nT l g=(zHd,false):=fun h1 h2=>by
   rw[nT,aH (bR.2 ⟨m,aG hm,by unfold Ku;rw[decide_eq_true h1,h2];rfl⟩)]
  (repeat' ((conv=>whnf);first|(with_reducible first|refine iI hkl ?_|refine iH hm ?_|refine aCK m ?_)|(refine aKo m.to g ho ?_)|refine zG ?_|apply zA|intro h|exact zT));all_goals conv=>whnf
  all_goals first
   |(rw[hit zw zw]at hK
     exact⟨_,hU gY Weak.bool,hK⟩)
   |(refine⟨k+1,⟨by omega,jJ hm (by unfold Ku;simp_all) hinv⟩,by omega,?_⟩
     rw[aN,aM];exact leA)
 ·have ha:nT l g=(Nk l g,true):=by
   rw[nT,aF];rw[bR]
   rintro⟨m,hm,h⟩
   obtain⟨i,hi⟩:=bH.1 hm;rw[iL hkl hinv i m hi]at h;cases h
  rw[ha]at hK;(repeat' ((conv=>whnf);first|(with_reducible refine aVl l g ho hl ?_)|refine zG ?_|apply zA|intro h|exact zT));all_goals conv=>whnf
  exact⟨_,hU gY Weak.bool,hK⟩
theorem aOQ(p:Pf)(v:Int)(v0:0<=v)(v1:v<=4294967295){K:KT}(hK:K (.sb (p.has v)) []):AC 204 [lN p,.fp [.v (.int .u32 v)]] [] K:=by
 refine aHQ rfl rfl ?_;(repeat' ((conv=>whnf);first|(with_reducible refine aAR p v v0 v1 ?_)|refine zG ?_|apply zA|intro h|exact zT));all_goals conv=>whnf
 exact hK
theorem aKO(t:Tp)(v:Int)(v0:0<=v)(v1:v<=4294967295)(he:t.edges.length<1000000)(hp:t.pools.length<1000000){K:KT}(hK:K (.sb (wL t v)) []):AC 117 [jT t,.v (.int .u32 v)] [] K:=by
 have hd:∀{K:KT},K (.sb (t.pools.any fun p=>p.has v)) []->AC 203 [.lst (t.pools.map lN),.fn (.func 204) [] [.fp [.v (.int .u32 v)]]] [] K:=by
  intro K hK;refine gZ (Xd rfl rfl ?_);(repeat' ((conv=>whnf);first|(with_reducible refine aKl t.pools _ _ (fun p=>p.has v) (fun x K h=>aOQ x v v0 v1 h) hp ?_)|refine zG ?_|apply zA|intro h|exact zT));all_goals conv=>whnf
  refine kB hK ?_;rw[<-first_any]
 refine gZ (aPs rfl rfl ?_);unfold wL at hK;(repeat' ((conv=>whnf);first|(with_reducible first|refine aKp t v v0 v1 he ?_|refine hd ?_)|refine zG ?_|apply zA|intro h|exact zT));all_goals conv=>whnf
 all_goals first
  |(rw[decide_eq_true zo,Bool.true_or]at hK
    exact kE hK rfl)
  |(rw[decide_eq_false zo,fG]at hK
    exact kB hK rfl)
abbrev aRW(x:Pb):List AV:=[.v (.int .u32 x.addr),.v (.int .i64 x.proto),.v (.int .i64 x.port),.v (.string x.edge),.v (.int .u32 x.real),.v (.int .i64 x.rport)]
abbrev Qk(x:Hn):List AV:=[.v (.string x.grp),.v (.string x.edge),.v (.int .u32 x.addr),.v (.int .u32 x.ports.lo),.v (.int .u32 x.ports.hi)]
theorem aVw(t:Tp)(x:Pb)(l:List Pb)(ha:PbA x)(he:t.edges.length<1000000)(hp:t.pools.length<1000000)(hl:l.length<1000000){K:KT}(hK:K (.v (.int .i64 (sP t l x))) []):AC 59 [jT t,jU x,.lst (l.map jU)] [] K:=by
 obtain⟨⟨a0,a1⟩,r0,r1⟩:=ha;refine aPB rfl rfl ?_;have hins:∀{K:KT},K (.sb (wL t x.addr)) []->AC 117 [jT t,.v (.int .u32 x.addr)] [] K:=fun h=>aKO t x.addr a0 a1 he hp h;have hat:∀{K:KT},K (.v (.int .i64 (mY t x.real))) []->AC 116 [jT t,.v (.int .u32 x.real)] [] K:=fun h=>aKp t x.real r0 r1 he h;have hed:∀{K:KT},K (.v (.int .i64 (jX t.edges x.edge))) []->AC 115 [jT t,.v (.string x.edge)] [] K:=fun h=>N7 t x.edge he h;unfold sP at hK;generalize wL t x.addr=ib at*;generalize mY t x.real=ea at*;generalize jX t.edges x.edge=ei at*;(repeat' ((conv=>whnf);first|(with_reducible first|refine hat ?_|refine hins ?_|refine hed ?_)|refine zG ?_|apply zA|intro h|exact zT));all_goals conv=>whnf
 all_goals first
  |(rw[aH (by simp_all)]at hK;exact hK)
  |(rw[aF (by simp_all),aH zo]at hK;exact hK)
  |(rw[aF (by simp_all),aF zo,aH zo]at hK;exact hK)
  |skip
 rw[aF (by simp_all),aF zo,aF zo]at hK;refine gV Nat (fun k=>⟨2,[(1,.box (aRW x))],[(4,.op 1 0),(30,.lst (l.map jU)),(31,.v (.int .i64 (l.map jU).length)),(32,.v (.int .i64 k))]⟩) (fun k=>k<=l.length/\∀(i:Nat) y,i<k->l[i]? =some y->Fd x y=false) (fun k=>l.length-k) 0 ⟨aK _,fun i y hi=>absurd hi (bD _)⟩ ?_ ?_
 ·exact leA
 intro k ⟨hk,hinv⟩;rcases aD k l.length with hkl|hkl
 ·obtain⟨q,hq⟩:=gex hkl;have hit:Fd x q=true->l.any (Fd x)=true:=fun h=>bR.2 ⟨q,aG hq,h⟩;have hdu:Fd x q=(sEq q.edge x.edge&&(decide (q.proto=x.proto)&&((decide (q.addr=x.addr)&&decide (q.port=x.port))||(decide (q.real=x.real)&&decide (q.rport=x.rport))))):=rfl;unfold sEq at hdu;(repeat' ((conv=>whnf);first|(with_reducible first|refine iI hkl ?_|refine iH hq ?_)|refine zG ?_|apply zA|intro h|exact zT));all_goals conv=>whnf
  all_goals first
   |(rw[aH (hit (by rw[hdu];simp_all))]at hK
     exact hK)
   |(refine⟨k+1,⟨by omega,jJ hq (by rw[hdu];simp_all) hinv⟩,by omega,?_⟩
     rw[aN,aM];exact leA)
 ·rw[aF (by
   rw[bR]
   rintro⟨m,hm,h⟩
   obtain⟨i,hi⟩:=bH.1 hm;rw[iL hkl hinv i m hi]at h;cases h)]at hK
  (repeat' ((conv=>whnf);first|refine zG ?_|apply zA|intro h|exact zT));all_goals conv=>whnf
  exact hK
theorem aOO(p:Pb)(x:Hn){K:KT}(hK:K (.sb (sEq p.edge x.edge&&decide (p.addr=x.addr))) []):AC 119 [jU p,.fp (Qk x)] [] K:=by
 refine gZ (aHN rfl rfl ?_);unfold sEq at hK;(repeat' ((conv=>whnf);first|refine zG ?_|apply zA|intro h|exact zT));all_goals conv=>whnf
 all_goals first
  |exact kB hK (by simp_all)
  |exact iU hK (by simp_all)
  |exact kE hK (by simp_all)
theorem aOP(q:Hn)(x:Hn){K:KT}(hK:K (.sb (sEq q.edge x.edge&&decide (q.addr=x.addr))) []):AC 121 [jY q,.fp (Qk x)] [] K:=by
 refine gZ (aHO rfl rfl ?_);unfold sEq at hK;(repeat' ((conv=>whnf);first|refine zG ?_|apply zA|intro h|exact zT));all_goals conv=>whnf
 all_goals first
  |exact kB hK (by simp_all)
  |exact iU hK (by simp_all)
  |exact kE hK (by simp_all)
theorem aOL(l:List Pb)(f:FuncId)(cs:List AV)(p:Pb->Bool)(hF:∀(x:Pb) (K:AV->List Vm.Obj->Prop),K (.sb (p x)) []->AC f [jU x,.fp cs] [] K)(hl:l.length<1000000){K:KT}(hK:K (.sb (l.any p)) []):
  AC 118 [.lst (l.map jU),.fn (.func f) [] [.fp cs]] [] K:=by
 have hc:∀{K:KT},K (.v (.int .i64 (jM p l))) []->AC 205 [.lst (l.map jU),.fn (.func f) [] [.fp cs]] [] K:=by
  intro K hK;refine aHT rfl rfl ?_;(repeat' ((conv=>whnf);first|refine zG ?_|apply zA|intro h|exact zT));all_goals conv=>whnf
  refine gV Nat (fun k=>⟨0,[],[(0,.lst (l.map jU)),(1,.fn (.func f) [] [.fp cs]),(7,.v (.int .i64 (l.map jU).length)),(8,.v (.int .i64 k))]⟩) (fun k=>k<=l.length/\∀(i:Nat) y,i<k->l[i]? =some y->p y=false) (fun k=>l.length-k) 0 ⟨aK _,fun i y hi=>absurd hi (bD _)⟩ ?_ ?_
  ·exact leA
  intro k ⟨hk,hinv⟩;rcases aD k l.length with hkl|hkl
  ·obtain⟨r,hr⟩:=gex hkl;(repeat' ((conv=>whnf);first|(with_reducible first|refine iI hkl ?_|refine iH hr ?_|refine hF r _ ?_)|refine zG ?_|apply zA|intro h|exact zT));all_goals conv=>whnf
   ·rw[jN hr h hinv]at hK;exact hK
   ·refine⟨k+1,⟨by omega,jJ hr h hinv⟩,by omega,?_⟩;rw[aN,aM];exact leA
  ·(repeat' ((conv=>whnf);first|refine zG ?_|apply zA|intro h|exact zT));all_goals conv=>whnf
   rw[jS (iL hkl hinv)]at hK;exact hK
 refine gZ (aHK rfl rfl ?_);(repeat' ((conv=>whnf);first|(with_reducible refine hc ?_)|refine zG ?_|apply zA|intro h|exact zT));all_goals conv=>whnf
 refine kB hK ?_;rw[<-first_any]
theorem aOK(l:List Hn)(f:FuncId)(cs:List AV)(p:Hn->Bool)(hF:∀(x:Hn) (K:AV->List Vm.Obj->Prop),K (.sb (p x)) []->AC f [jY x,.fp cs] [] K)(hl:l.length<1000000){K:KT}(hK:K (.sb (l.any p)) []):
  AC 120 [.lst (l.map jY),.fn (.func f) [] [.fp cs]] [] K:=by
 have hc:∀{K:KT},K (.v (.int .i64 (jM p l))) []->AC 206 [.lst (l.map jY),.fn (.func f) [] [.fp cs]] [] K:=by
  intro K hK;refine aHS rfl rfl ?_;(repeat' ((conv=>whnf);first|refine zG ?_|apply zA|intro h|exact zT));all_goals conv=>whnf
  refine gV Nat (fun k=>⟨0,[],[(0,.lst (l.map jY)),(1,.fn (.func f) [] [.fp cs]),(7,.v (.int .i64 (l.map jY).length)),(8,.v (.int .i64 k))]⟩) (fun k=>k<=l.length/\∀(i:Nat) y,i<k->l[i]? =some y->p y=false) (fun k=>l.length-k) 0 ⟨aK _,fun i y hi=>absurd hi (bD _)⟩ ?_ ?_
  ·exact leA
  intro k ⟨hk,hinv⟩;rcases aD k l.length with hkl|hkl
  ·obtain⟨r,hr⟩:=gex hkl;(repeat' ((conv=>whnf);first|(with_reducible first|refine iI hkl ?_|refine iH hr ?_|refine hF r _ ?_)|refine zG ?_|apply zA|intro h|exact zT));all_goals conv=>whnf
   ·rw[jN hr h hinv]at hK;exact hK
   ·refine⟨k+1,⟨by omega,jJ hr h hinv⟩,by omega,?_⟩;rw[aN,aM];exact leA
  ·(repeat' ((conv=>whnf);first|refine zG ?_|apply zA|intro h|exact zT));all_goals conv=>whnf
   rw[jS (iL hkl hinv)]at hK;exact hK
 refine gZ (aHJ rfl rfl ?_);(repeat' ((conv=>whnf);first|(with_reducible refine hc ?_)|refine zG ?_|apply zA|intro h|exact zT));all_goals conv=>whnf
 refine kB hK ?_;rw[<-first_any]
theorem aVo(t:Tp)(i:Nt)(x:Hn)(l:List Hn)(a0:0<=x.addr)(a1:x.addr<=4294967295)(he:t.edges.length<1000000)(hp:t.pools.length<1000000)(hpl:i.pubs.length<1000000)(hl:l.length<1000000){K:KT}(hK:K (.v (.int .i64 (Dz t i l x))) []):
  AC 60 [jT t,jC i,jY x,.lst (l.map jY)] [] K:=by
 have h1:∀{K:KT},K (.sb (i.pubs.any fun p=>sEq p.edge x.edge&&decide (p.addr=x.addr))) []->AC 118 [.lst (i.pubs.map jU),.fn (.func 119) [] [.fp (Qk x)]] [] K:=fun h=>aOL i.pubs _ _ _ (fun y K h=>aOO y x h) hpl h;have h2:∀{K:KT},K (.sb (l.any fun q=>sEq q.edge x.edge&&decide (q.addr=x.addr))) []->AC 120 [.lst (l.map jY),.fn (.func 121) [] [.fp (Qk x)]] [] K:=fun h=>aOK l _ _ _ (fun y K h=>aOP y x h) hl h;have h3:∀{K:KT},K (.sb (wL t x.addr)) []->AC 117 [jT t,.v (.int .u32 x.addr)] [] K:=fun h=>aKO t x.addr a0 a1 he hp h;refine aPq rfl rfl ?_;unfold Dz at hK;generalize wL t x.addr=ib at*;generalize (i.pubs.any fun p=>sEq p.edge x.edge&&decide (p.addr=x.addr))=c1 at*;generalize (l.any fun q=>sEq q.edge x.edge&&decide (q.addr=x.addr))=c2 at*;cases ib<;>cases c1<;>cases c2
 all_goals
  simp only[cK,if_false,if_true]at hK;(repeat' ((conv=>whnf);first|(with_reducible first|refine h3 ?_|refine h1 ?_|refine h2 ?_)|refine zG ?_|apply zA|intro h|exact zT));all_goals conv=>whnf
  all_goals first
   |exact hK
   |(exfalso;simp_all;done)
abbrev pV(h:Hi):AV:=.agg [.v (.int .u32 h.mt.r0.lo),.v (.int .u32 h.mt.r0.hi),.v (.int .u32 h.mt.r1.lo),.v (.int .u32 h.mt.r1.hi),.v (.int .u32 h.mt.r2.lo),.v (.int .u32 h.mt.r2.hi),.v (.int .u32 h.mt.r3.lo),.v (.int .u32 h.mt.r3.hi),.v (.int .u32 h.mt.r4.lo),.v (.int .u32 h.mt.r4.hi),.v (.int .u32 h.addr),.v (.int .u32 h.ports.lo),.v (.int .u32 h.ports.hi)]
abbrev nN(l:List Hi):AV:=.lst (l.map pV)
end Go.Proofs.YtgicddadddhonaaGreatDoor
