/- Lemmas. -/
import Derived.Test.YtgicddadddhonaaGreatDoorM34
set_option linter.unusedVariables false
set_option linter.unusedSimpArgs false
set_option maxRecDepth 100000
set_option maxHeartbeats 40000000
noncomputable section
namespace Go.Proofs.YtgicddadddhonaaGreatDoor
open Go Go.Vm
def cpC:Nat->List Df->List AV
 |_,[]=>[]
 |k,d::r=>.v (.string d.name)::.os k 7 0 d.items.length::cpC (k+1) r
def itA(d:Df):Vm.Obj:=.arr 7 (d.items.map lA)
def cpV(l:List Df):AV:=match l with
 |[]=>.nils
 |_::_=>.os 0 2 0 l.length
def cpO(l:List Df):List Vm.Obj:=match l with
 |[]=>[]
 |_::_=>.box (cpC 1 l)::l.map itA
theorem Rb{i:Int}{len:Nat}{K:Nat->Prop}(h:(decide (0<=i)&&Nat.blt i.toNat len)=true)(hk:K i.toNat):In i len K:=by
 rw[aJ,aL,Nat.blt_eq]at h;exact iB i.toNat zo h.2 hk
theorem aSP(l:List Df)(hl:l.length<=4)(hi:∀d,d∈l->d.items.length<=999){K:KT}(hK:K (cpV l) (cpO l)):AC 102 [.lst (l.map iQ)] [] K:=by
 match l,hl with
 |[],_=>
  refine J3 rfl rfl ?_;(repeat' ((conv=>whnf);first|(with_reducible refine Lp.times 1 ?_)|refine zG ?_|apply zA|intro h|exact zT));all_goals conv=>whnf
  exact hK
 |[a],_=>
  have ha:=hi a zx;refine J3 rfl rfl ?_;(repeat' ((conv=>whnf);first|(with_reducible refine Lp.times 2 ?_)|(refine Rb (by rfl) ?_)|(refine iC rfl ?_)|refine zG ?_|apply zA|intro h|exact zT));all_goals conv=>whnf
  all_goals
   simp only[bM,dB,aA];exact hK
 |[a,b],_=>
  have ha:=hi a zx;have hb:=hi b zx;refine J3 rfl rfl ?_;(repeat' ((conv=>whnf);first|(with_reducible refine Lp.times 3 ?_)|(refine Rb (by rfl) ?_)|(refine iC rfl ?_)|refine zG ?_|apply zA|intro h|exact zT));all_goals conv=>whnf
  all_goals
   simp only[bM,dB,aA];exact hK
 |[a,b,c],_=>
  have ha:=hi a zx;have hb:=hi b zx;have hc:=hi c zx;refine J3 rfl rfl ?_;(repeat' ((conv=>whnf);first|(with_reducible refine Lp.times 4 ?_)|(refine Rb (by rfl) ?_)|(refine iC rfl ?_)|refine zG ?_|apply zA|intro h|exact zT));all_goals conv=>whnf
  all_goals
   simp only[bM,dB,aA];exact hK
 |[a,b,c,d],_=>
  have ha:=hi a zx;have hb:=hi b zx;have hc:=hi c zx;have hd:=hi d zx;refine J3 rfl rfl ?_;(repeat' ((conv=>whnf);first|(with_reducible refine Lp.times 5 ?_)|(refine Rb (by rfl) ?_)|(refine iC rfl ?_)|refine zG ?_|apply zA|intro h|exact zT));all_goals conv=>whnf
  all_goals
   simp only[bM,dB,aA];exact hK
theorem aBz(l:List Df)(hl:l.length<=4)(hi:∀d,d∈l->d.items.length<=999){K:KT}(hK:K (.os 0 2 0 l.length) [.arr 2 (l.map iQ)]):AC 102 [.lst (l.map iQ)] [] K:=by
 rcases l with _|⟨a,_|⟨b,_|⟨c,_|⟨d,_|⟨_,_⟩⟩⟩⟩⟩
 all_goals first
  |(exfalso;simp only[aB,aI]at hl;omega)
  |((try have ha:=hi a zx)
    (try have hb:=hi b zx)
    (try have hc:=hi c zx)
    (try have hd:=hi d zx)
    clear hi;refine aPK rfl rfl ?_;(repeat' ((conv=>whnf);first|(with_reducible refine Lp.times 5 ?_)|(refine Rb (by rfl) ?_)|(refine iC rfl ?_)|(with_reducible refine iT zx ?_)|refine zG ?_|apply zA|intro h|exact zT));all_goals conv=>whnf
    all_goals
     (try simp only[bM,dB,aA])
     exact hK)
theorem aSO(i:Nt)(hg1:1<=i.grps.length)(hg3:i.grps.length<=4)(hs2:i.svcs.length<=4)(hw1:i.wins.length<=2)(hgi:∀d,d∈i.grps->d.items.length<=999)(hsi:∀d,d∈i.svcs->d.items.length<=999)(hwi:∀w,w∈i.wins->w.act.length<=4000)
  (h3:i.sts.length<=999)(h4:i.pubs.length<=999)(h5:i.hids.length<=999){K:KT}(hK:K (.agg [.os 0 2 0 i.grps.length,.os 1 2 0 i.svcs.length,.os 2 2 0 i.wins.length,.os 3 10 0 i.sts.length,.os 4 6 0 i.pubs.length,.os 5 5 0 i.hids.length])
   (.box (cpC 6 i.grps)::.arr 2 (i.svcs.map iQ)::.arr 2 (i.wins.map jZ)::.arr 10 (i.sts.map kC)::.arr 6 (i.pubs.map jU)::.arr 5 (i.hids.map jY)::i.grps.map itA)):AC 45 [jC i] [] K:=by
 obtain⟨gs,ss,ws,ts,ps,hs'⟩:=i;simp only at hg1 hg3 hs2 hw1 hgi hsi hwi h3 h4 h5;have c1:=fun {K} h=>@aSP gs zo hgi K h;have c2:=fun {K} h=>@aBz ss zo hsi K h;have hws:∀w,w∈ws->w.act.length<=4000:=hwi;clear hgi hsi hwi;rcases gs with _|⟨a,_|⟨b,_|⟨e,_|⟨f,_|⟨_,_⟩⟩⟩⟩⟩<;>rcases ws with _|⟨w,_|⟨x,_|⟨_,_⟩⟩⟩
 all_goals first
  |(exfalso;simp only[aB,aI]at hg1 hg3 hw1;omega)
  |((try have hwl:=hws w zx)
    (try have hxl:=hws x zx)
    refine aPJ rfl rfl ?_;(repeat' ((conv=>whnf);first|(refine c1 ?_)|(refine c2 ?_)|(with_reducible refine Lp.times 3 ?_)|(refine Rb (by rfl) ?_)|(refine iC rfl ?_)|refine zG ?_|apply zA|intro h|exact zT));all_goals conv=>whnf
    all_goals
     (try simp only[bM,dB,aA])
     exact hK)
theorem aSQ(x n:Int)(hn:1<=n)(hn2:n<=9223372036854775807):∃m:Nat,(m:Int)<n/\∀{K:KT},K (.v (.int .i64 m)) []->AC 52 [.v (.int .i64 x),.v (.int .i64 n)] [] K:=by
 have w0:0<=IntKind.u64.wrap x:=by simp only[IntKind.wrap,IntKind.signed,IntKind.bits];simp;omega
 have w1:IntKind.u64.wrap x<=18446744073709551615:=by simp only[IntKind.wrap,IntKind.signed,IntKind.bits];simp;omega
 generalize hw:IntKind.u64.wrap x=r at w0 w1;have m0:0<=r.tmod n:=Int.tmod_nonneg n w0;have m1:r.tmod n<n:=Int.tmod_lt_of_pos r zo;refine⟨(r.tmod n).toNat,by omega,fun {K} hK=>?_⟩;refine aOZ rfl rfl ?_;(conv=>whnf)
 refine Wr.intro hw ?_
 iterate 10 (all_goals((conv=>whnf);first|refine zG ?_|apply zA|intro h|exact zT|skip))
 rw[Int.toNat_of_nonneg m0]at hK;exact hK
theorem aOX(raw:List Int)(pos:Nat)(hp:pos<=raw.length)(hr:raw.length<=9223372036854775807):
  ∃m pos':Nat,m<14/\pos'<=raw.length/\∀{K:KT},K (.v (.int .i64 m)) [iO raw pos']->AC 14 [.op 0 0,.v (.int .i64 14)] [iO raw pos] K:=by
 rcases aD pos raw.length with hlt|hge
 ·obtain⟨x,hx⟩:=gex hlt;have hj:((pos:Int)+1-1=pos)/\pos<(raw.map encI).length:=by rw[aA];omega
  obtain⟨m,hm,hk⟩:=aSQ x 14 zd zd;refine⟨m,pos+1,by omega,hlt,fun {K} hK=>?_⟩;refine aOY rfl rfl ?_
  iterate 40 (all_goals((conv=>whnf);first|(with_reducible first|refine iB pos hj.1 hj.2 ?_|refine iH hx ?_|refine hk ?_)|refine zG ?_|apply zA|intro h|exact zT|skip))
  exact hK
 ·refine⟨0,pos,by decide,hp,fun {K} hK=>?_⟩;refine aOY rfl rfl ?_
  iterate 40 (all_goals((conv=>whnf);first|refine zG ?_|apply zA|intro h|exact zT|skip))
  all_goals first
   |exact hK
   |(exfalso;omega)
theorem tY(i:Nt)(hg3:i.grps.length<=4)(hs2:i.svcs.length<=4)(hw1:i.wins.length<=2)(hgi:∀d,d∈i.grps->d.items.length<=999)(hsi:∀d,d∈i.svcs->d.items.length<=999)(hwi:∀w,w∈i.wins->w.act.length<=4000)
  (h3:i.sts.length<=999)(h4:i.pubs.length<=999)(h5:i.hids.length<=999){K:KT}(hK:K (.agg [.os 0 2 0 i.grps.length,.os 1 2 0 i.svcs.length,.os 2 2 0 i.wins.length,.os 3 10 0 i.sts.length,.os 4 6 0 i.pubs.length,.os 5 5 0 i.hids.length])
   [.arr 2 (i.grps.map iQ),.arr 2 (i.svcs.map iQ),.arr 2 (i.wins.map jZ),.arr 10 (i.sts.map kC),.arr 6 (i.pubs.map jU),.arr 5 (i.hids.map jY)]):AC 45 [jC i] [] K:=by
 obtain⟨gs,ss,ws,ts,ps,hs'⟩:=i;simp only at hg3 hs2 hw1 hgi hsi hwi h3 h4 h5;have c1:=fun {K} h=>@aBz gs zo hgi K h;have c2:=fun {K} h=>@aBz ss zo hsi K h;have hws:∀w,w∈ws->w.act.length<=4000:=hwi;clear hgi hsi hwi;rcases ws with _|⟨w,_|⟨x,_|⟨_,_⟩⟩⟩
 all_goals first
  |(exfalso;simp only[aB,aI]at hw1;omega)
  |((try have hwl:=hws w zx)
    (try have hxl:=hws x zx)
    refine aPL rfl rfl ?_;(repeat' ((conv=>whnf);first|(with_reducible first|refine c1 ?_|refine c2 ?_|refine Lp.times 3 ?_)|(refine Rb (by rfl) ?_)|(refine iC rfl ?_)|refine zG ?_|apply zA|intro h|exact zT));all_goals conv=>whnf
    all_goals
     (try simp only[bM,dB,aA])
     exact hK)
structure Spo (g s w x:Nat) (i:Nt):Prop where
 g1:1<=i.grps.length
 g:i.grps.length<=g
 s:i.svcs.length<=s
 w:i.wins.length<=w
 t:i.sts.length<=x
 p:i.pubs.length<=x
 h:i.hids.length<=x
 gi:∀d,d∈i.grps->d.items.length<=2
 si:∀d,d∈i.svcs->d.items.length<=2
 wi:∀d,d∈i.wins->d.act.length<=4000
 pa:∀p,p∈i.pubs->PbA p
 ha:∀h,h∈i.hids->HnA h
theorem aJQ{i:Nt}(h:ENt i):Spo 3 3 1 99 i:=by
 have f:=h.gen.few;have b:=Vr h;have o:=h.ok;exact⟨h.g1,f.g3,f.s3,h.w1,bC h.t3 zd,bC h.p1 zd,bC h.h1 zd,f.gi,f.si,f.sml.wi,h.pa,h.ha⟩
theorem Xz{g s w x:Nat}{i:Nt}(h:Spo g s w x i)(hg:g<=9)(hs:s<=99)(hw:w<=99)(hx:x<=999):Bnd i:=by
 have h1:=h.g;have h2:=h.s;have h3:=h.w;have h4:=h.t;have h5:=h.p;have h6:=h.h;have a:=H5 _ h.gi;have b:=H5 _ h.si;exact⟨by omega,by omega,by omega,by omega,by omega,by omega,fun d hd=>bC (h.gi d hd) zd,fun d hd=>bC (h.si d hd) zd,h.wi,by omega,by omega⟩
theorem zC{α:Type}(enc:α->AV)(p:α->Prop):∀{L:List AV},(∀y,y∈L->∃a,y=enc a/\p a)->∃l:List α,L=l.map enc/\∀a,a∈l->p a
 |[],_=>⟨[],rfl,fun a h=>by cases h⟩
 |y::L,h=>by
  obtain⟨a,rfl,pa⟩:=h y zx;obtain⟨l,rfl,pl⟩:=zC enc p (L:=L) fun z hz=>h z (by simp[hz]);exact⟨a::l,rfl,fun b hb=>by
   rcases aZ.1 hb with rfl|hb
   ·exact pa
   ·exact pl b hb⟩
theorem iS{α:Type}{enc:α->AV}{p:α->Prop}{l:List α}(h:∀a,a∈l->p a):∀y,y∈l.map enc->∃a,y=enc a/\p a:=fun y hy=>by
 obtain⟨a,ha,rfl⟩:=bQ.1 hy;exact⟨a,rfl,h a ha⟩
def aCy(x:AV):Bool:=match x with|.v (.string _)=>true|_=>false
def aCx(x:AV):Bool:=match x with|.v (.int .i64 _)=>true|_=>false
theorem nC{xs:List AV}{i:Nat}{K:AV->Prop}(hx:xs.all aCy=true)(hi:i<xs.length)(hk:∀c,K (.v (.string c))):Ix xs i K:=by
 refine iC (aE hi) ?_;have:=bT.1 hx _ (dE hi);unfold aCy at this;split at this
 ·rename_i c e;rw[e];exact hk c
 ·cases this
theorem oJ{xs:List AV}{i:Nat}{K:AV->Prop}(hx:xs.all aCx=true)(hi:i<xs.length)(hk:∀c,K (.v (.int .i64 c))):Ix xs i K:=by
 refine iC (aE hi) ?_;have:=bT.1 hx _ (dE hi);unfold aCx at this;split at this
 ·rename_i c e;rw[e];exact hk c
 ·cases this
theorem aEX{xs ys:List AV}(hl:xs.length=ys.length)(hc:∀(i:Nat) x y,xs[i]? =some x->ys[i]? =some y->x.cells.length=y.cells.length/\∀(j:Nat) a b,x.cells[j]? =some a->y.cells[j]? =some b->Weak a b):Weak (.lst xs) (.lst ys):=fun E w ι v h=>by
 have hx:∀(i:Nat) y,ys[i]? =some y->∃x,xs[i]? =some x:=fun i y hy=>by
  have:=(aP.1 hy).1;exact⟨_,aE zo⟩
 cases h with
 |lnil a c=>
  cases ys with
  |nil=>exact .lnil a c
  |cons _ _=>simp at hl
 |lst _ b off n cap sz hE hb hn hcap hz g hg h=>
  refine .lst ys b off n cap sz hE hb (hn.trans hl) hcap (fun i y hy=>?_) g (fun i y j a hy ha=>?_) (fun i y j a hy ha=>?_)
  ·obtain⟨x,hxx⟩:=hx i y hy;rw[<-(hc i x y hxx hy).1];exact hz i x hxx
  ·obtain⟨x,hxx⟩:=hx i y hy;have h1:=(hc i x y hxx hy).1;have hj:j<x.cells.length:=by rw[h1];exact(aP.1 ha).1
   exact hg i x j _ hxx (aE hj)
  ·obtain⟨x,hxx⟩:=hx i y hy;have h1:=(hc i x y hxx hy).1;have hj:j<x.cells.length:=by rw[h1];exact(aP.1 ha).1
   exact(hc i x y hxx hy).2 j _ a (aE hj) ha E w _ _ (h i x j _ hxx (aE hj))
theorem mI{a:AV}{r:List AV}:Weak (.lst (.agg [a,.nils]::r)) (.lst (.agg [a,.lst []]::r)):=
 aEX rfl fun i x y hx hy=>by
  cases i with
  |zero=>
   cases hx;cases hy;refine⟨rfl,fun j u v hu hv=>?_⟩;rcases j with _|_|j
   ·cases hu;cases hv;exact gY
   ·cases hu;cases hv;exact hZ
   ·cases hu
  |succ i=>
   have e:x=y:=bB (hx.symm.trans hy);subst e;exact⟨rfl,fun j u v hu hv=>by rw[bB (hu.symm.trans hv)];exact gY⟩
theorem oDf(c n:ByteArray)(k:Int):∃a:Df,AV.agg [.v (.string c),.lst [.agg [.v (.int .i64 k),.v (.string n),.v (.int .u32 0),.v (.int .i64 0),.v (.int .i64 0),.v (.int .u32 0),.v (.int .u32 0)]]]=iQ a/\a.items.length<=2:=⟨⟨c,[⟨k,n,uK,0,zR⟩]⟩,rfl,by simp⟩
theorem oDs(c:ByteArray)(p lo hi:Int)(l0:0<=lo)(l1:lo<=4294967295)(h0:0<=hi)(h1:hi<=4294967295):∃a:Df,AV.agg [.v (.string c),.lst [.agg [.v (.int .i64 4),.v (.string ⟨#[]⟩),.v (.int .u32 0),.v (.int .i64 0),.v (.int .i64 p),.v (.int .u32 lo),.v (.int .u32 hi)]]]=iQ a/\a.items.length<=2:=⟨⟨c,[⟨4,⟨#[]⟩,uK,p,⟨lo,hi,l0,l1,h0,h1⟩⟩]⟩,rfl,by simp⟩
theorem oWn(c:ByteArray)(l:List Rg)(h:l.length<=4000):∃a:Wn,AV.agg [.v (.string c),iR l]=jZ a/\a.act.length<=4000:=⟨⟨c,l⟩,rfl,h⟩
theorem oSm(p e:Bool)(a b c d f g k:ByteArray)(n:Int):∃x:Sm,AV.agg [.sb p,.v (.string a),.v (.string b),.v (.string c),.sb e,.v (.string d),.v (.string f),.v (.string g),.v (.string k),.v (.int .i64 n)]=kC x/\True:=⟨⟨p,a,b,c,e,d,f,g,k,n⟩,rfl,trivial⟩
theorem oPb(a b c d e:Int)(n:ByteArray)(a0:0<=a)(a1:a<=4294967295)(d0:0<=d)(d1:d<=4294967295):∃x:Pb,AV.agg [.v (.int .u32 a),.v (.int .i64 b),.v (.int .i64 c),.v (.string n),.v (.int .u32 d),.v (.int .i64 e)]=jU x/\PbA x:=⟨⟨a,b,c,n,d,e⟩,rfl,⟨a0,a1⟩,d0,d1⟩
theorem oHn(g e:ByteArray)(a lo hi:Int)(a0:0<=a)(a1:a<=4294967295)(l0:0<=lo)(l1:lo<=4294967295)(h0:0<=hi)(h1:hi<=4294967295):∃x:Hn,AV.agg [.v (.string g),.v (.string e),.v (.int .u32 a),.v (.int .u32 lo),.v (.int .u32 hi)]=jY x/\HnA x:=⟨⟨g,e,a,⟨lo,hi,l0,l1,h0,h1⟩⟩,rfl,a0,a1⟩
theorem pZ(raw:List Int)(pos:Nat)(hp:pos<=raw.length)(hr:raw.length<=9223372036854775807){K:KT}
  (hK:∀(c:ByteArray) (pos':Nat),pos'<=raw.length->K (.v (.string c)) [iO raw pos']):AC 47 [.op 0 0] [iO raw pos] K:=by
 refine aPO rfl rfl ?_;(repeat' ((conv=>whnf);first|(with_reducible first|refine jI raw _ _ zo zp hr fun m1 p1 hm1 hp1=>?_|refine iJ zo ?_)|(refine nC (by rfl) (by simp only[aB,aI];omega) fun c=>?_)|refine zG ?_|apply zA|intro h|exact zT));all_goals conv=>whnf
 exact hK _ _ zp
theorem pP{g s w x:Nat}{raw:List Int}{K:KT}(hK:∀(j:Nt) (pos':Nat),Spo g s w x j->pos'<=raw.length->K (jC j) [iO raw pos'])(G S W T P H:List AV)(p':Nat)(h1:∀y,y∈G->∃a:Df,y=iQ a/\a.items.length<=2)(h2:∀y,y∈S->∃a:Df,y=iQ a/\a.items.length<=2)(h3:∀y,y∈W->∃a:Wn,y=jZ a/\a.act.length<=4000)
  (h4:∀y,y∈T->∃a:Sm,y=kC a/\True)(h5:∀y,y∈P->∃a:Pb,y=jU a/\PbA a)(h6:∀y,y∈H->∃a:Hn,y=jY a/\HnA a)(hl:1<=G.length/\G.length<=g/\S.length<=s/\W.length<=w/\T.length<=x/\P.length<=x/\H.length<=x)(hp':p'<=raw.length):
  K (.agg [.lst G,.lst S,.lst W,.lst T,.lst P,.lst H]) [iO raw p']:=by
 obtain⟨G,rfl,q1⟩:=zC iQ _ h1;obtain⟨S,rfl,q2⟩:=zC iQ _ h2;obtain⟨W,rfl,q3⟩:=zC jZ _ h3;obtain⟨T,rfl,q4⟩:=zC kC _ h4;obtain⟨P,rfl,q5⟩:=zC jU _ h5;obtain⟨H,rfl,q6⟩:=zC jY _ h6;simp only[aA]at hl;exact hK ⟨G,S,W,T,P,H⟩ p' ⟨hl.1,hl.2.1,hl.2.2.1,hl.2.2.2.1,hl.2.2.2.2.1,hl.2.2.2.2.2.1,hl.2.2.2.2.2.2,q1,q2,q3,q5,q6⟩ hp'
theorem mB{Q:AV->Prop}{x:AV}{l:List AV}(h:Q x)(t:∀y,y∈l->Q y):∀y,y∈x::l->Q y:=fun y hy=>by
 rcases aZ.1 hy with rfl|hy
 ·exact h
 ·exact t y hy
theorem aAg{Q:AV->Prop}:∀y,y∈([]:List AV)->Q y:=fun y hy=>by cases hy
theorem oIt(n:ByteArray)(k:Int):∃a:It,AV.agg [.v (.int .i64 k),.v (.string n),.v (.int .u32 0),.v (.int .i64 0),.v (.int .i64 0),.v (.int .u32 0),.v (.int .u32 0)]=lA a:=⟨⟨k,n,uK,0,zR⟩,rfl⟩
theorem oDL(c:ByteArray){L:List AV}(h:∀y,y∈L->∃a:It,y=lA a)(hl:L.length<=2):∃a:Df,AV.agg [.v (.string c),.lst L]=iQ a/\a.items.length<=2:=by
 obtain⟨l,rfl⟩:=mM lA h;exact⟨⟨c,l⟩,rfl,by simpa using hl⟩
theorem aTa(raw:List Int)(pos:Nat)(hp:pos<=raw.length)(hr:raw.length<=9223372036854775807)(i:Nt)(g s w x:Nat)(h:Spo g s w x i)(hg:g<=4)(hs:s<=4)(hw:w<=2)(hx:x<=900)
  (p1:Nat)(hp1:p1<=raw.length)(hn:∀{K:KT},K (.v (.int .i64 (1:Nat))) [iO raw p1]->AC 14 [.op 0 0,.v (.int .i64 14)] [iO raw pos] K){K:KT}
  (hK:∀(j:Nt) (pos':Nat),Spo (g+1) (s+1) (w+1) (x+1) j->pos'<=raw.length->K (jC j) [iO raw pos']):
  AC 11 [.op 0 0,jC i] [iO raw pos] K:=by
 obtain⟨g1,b1,b2,b3,b4,b5,b6,gi,si,wi,pa,ha⟩:=h;have hE:=@pP (g+1) (s+1) (w+1) (x+1) raw K hK;obtain⟨gs,ss,ws,ts,ps,hs'⟩:=i;simp only at g1 b1 b2 b3 b4 b5 b6 gi si wi pa ha;have qS:=iS (enc:=iQ) si;have qW:=iS (enc:=jZ) wi;have qT:=iS (enc:=kC) (p:=fun _=>True) (l:=ts) fun _ _=>trivial;have qP:=iS (enc:=jU) (p:=PbA) (l:=ps) pa;have qH:=iS (enc:=jY) (p:=HnA) (l:=hs') ha;have g4:gs.length<=4:=by omega
 have hcp:=fun {K} h=>@aSO ⟨gs,ss,ws,ts,ps,hs'⟩ g1 zs zs zs (fun d hd=>bC (gi d hd) zd) (fun d hd=>bC (si d hd) zd) wi zs zs zs K h;simp only at hcp;rcases gs with _|⟨a,_|⟨b,_|⟨e,_|⟨f,_|⟨_,_⟩⟩⟩⟩⟩
 all_goals first
  |(exfalso;simp only[aB,aI]at g1 g4;omega)
  |((try have ha:=gi a zx)
    (try have hb:=gi b zx)
    (try have he:=gi e zx)
    (try have hf:=gi f zx)
    simp only[aR,bI,aB,aI,bM,Nat.reduceAdd]at hcp;refine aIo rfl rfl ?_;(repeat' ((conv=>whnf);first|(refine hcp ?_)|(with_reducible first|refine hn ?_|refine jI raw _ _ zx zw hr fun m1 q1 hm1 hq1=>?_)|(refine nC (by rfl) (by simp only[aB,aI];omega) fun c=>?_)|(refine Rb (by rfl) ?_)|(refine iC rfl ?_)|(with_reducible first|refine iJ (by(try simp only[aA,aB,aI]);omega) ?_|refine nY zo fun r hx=>?_|refine kY fun r=>?_|refine iB 0 rfl (by(try simp only[aA,aB]at*);omega) ?_)|refine zG ?_|apply zA|intro h|exact zT));all_goals conv=>whnf
    all_goals first
     |(refine hE _ _ _ _ _ _ _ ?_ qS qW qT qP qH ?_ zw
       ·repeat' first
         |exact aAg
         |refine mB ?_ ?_
         |refine oDL _ ?_ ?_
         |exact Vn _
         |refine nQ ?_ ?_
         |exact oIt _ _
         |(simp only[aA,cL];omega)
       ·simp only[aA,aB,aI]at*;omega)
     |trace_state)
end Go.Proofs.YtgicddadddhonaaGreatDoor
