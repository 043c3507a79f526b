/- Lemmas. -/
import Derived.Test.YtgicddadddhonaaGreatDoorProg
import Derived.Test.YtgicddadddhonaaGreatDoorM24
set_option linter.unusedVariables false
set_option linter.unusedSimpArgs false
set_option maxRecDepth 100000
set_option maxHeartbeats 4000000
noncomputable section
namespace Go.Proofs.YtgicddadddhonaaGreatDoor
open Go Go.Vm
theorem We(l:List Df):Fine l [] []:=⟨List.Pairwise.nil,List.Pairwise.nil,Firsts.nil,Firsts.nil,fun n h=>(by cases h),fun n h=>(by cases h),fun n h=>(by cases h)⟩
inductive Lead {U:Type} (l:List Df) (vis:It->U->Prop):ByteArray->U->Prop
 |here {nm:ByteArray} {n:Nat} {d:Df} {x:It} {u:U} (h1:lR l nm=some n) (h2:l[n]? =some d) (h3:x∈d.items) (h4:x.kind≠3) (h5:vis x u):Lead l vis nm u
 |there {nm:ByteArray} {n:Nat} {d:Df} {x:It} {u:U} (h1:lR l nm=some n) (h2:l[n]? =some d) (h3:x∈d.items) (h4:x.kind=3) (h5:Lead l vis x.name u):Lead l vis nm u
inductive Good (l:List Df) (ok:It->Bool):ByteArray->Prop
 |mk {nm:ByteArray} {n:Nat} {d:Df} (h1:lR l nm=some n) (h2:l[n]? =some d) (h3:∀x,x∈d.items->x.kind≠3->ok x=true) (h4:∀x,x∈d.items->x.kind=3->Good l ok x.name):Good l ok nm
inductive Need (l:List Df):Nat->Nat->Prop
 |one {n m:Nat} {d:Df} {x:It} (h1:l[n]? =some d) (h2:x∈d.items) (h3:x.kind=3) (h4:lR l x.name=some m):Need l n m
 |more {n m k:Nat} (h1:Need l n m) (h2:Need l m k):Need l n k
theorem Need.first{l:List Df}{n k:Nat}(h:Need l n k):∃d x m,l[n]? =some d/\x∈d.items/\x.kind=3/\lR l x.name=some m/\(m=k\/Need l m k):=by
 induction h with
 |one h1 h2 h3 h4=>exact⟨_,_,_,h1,h2,h3,h4,.inl rfl⟩
 |more h1 h2 ih1 ih2=>
  obtain⟨d,x,m,g1,g2,g3,g4,g5⟩:=ih1;refine⟨d,x,m,g1,g2,g3,g4,.inr ?_⟩;rcases g5 with rfl|g5
  ·exact h2
  ·exact .more g5 h2
section
variable {S U:Type} (v:It->S->Int×S) (mem:S->U->Prop) (vis:It->U->Prop) (ok:It->Bool)
structure Vis:Prop where
 add:∀x s,(v x s).1=0->∀u,mem (v x s).2 u↔(mem s u\/vis x u)
 ok:∀x s,(v x s).1=0↔ok x=true
structure Closed (l:List Df) (d:List Nat) (s:S):Prop where
 it:∀n,n∈d->∀df,l[n]? =some df->∀x,x∈df.items->x.kind≠3->∀u,vis x u->mem s u
 nm:∀n,n∈d->∀df,l[n]? =some df->∀x,x∈df.items->x.kind=3->∃m,m∈d/\lR l x.name=some m
 good:∀n,n∈d->∀nm,lR l nm=some n->Good l ok nm
structure Fol (l:List Df) (p:List Nat) (d:List Nat) (s:S) (d':List Nat) (s':S) (new:U->Prop):Prop where
 fine:Fine l p d'
 closed:Closed mem vis ok l d' s'
 sub:∀n,n∈d->n∈d'
 up:∀u,mem s u->mem s' u
 dn:∀u,mem s' u->mem s u\/new u
theorem Y1{l:List Df}{d:List Nat}{s:S}(h:Closed mem vis ok l d s){nm:ByteArray}{u:U}(hl:Lead l vis nm u):∀m,m∈d->lR l nm=some m->mem s u:=by
 induction hl with
 |here h1 h2 h3 h4 h5=>
  intro m hm hf;rw[h1]at hf;cases hf;exact h.it _ hm _ h2 _ h3 h4 _ h5
 |there h1 h2 h3 h4 h5 ih=>
  intro m hm hf;rw[h1]at hf;cases hf;obtain⟨m',h6,h7⟩:=h.nm _ hm _ h2 _ h3 h4;exact ih m' h6 h7
variable (hv:Vis v mem vis ok)
include hv
theorem Qw{l:List Df}{p:List Nat}{rec:ByteArray->List Nat->S->Int×List Nat×S}
  (hrec:∀nm d s,Fine l p d->Closed mem vis ok l d s->(rec nm d s).1=0->Fol mem vis ok l p d s (rec nm d s).2.1 (rec nm d s).2.2 (Lead l vis nm)/\∃m,m∈(rec nm d s).2.1/\lR l nm=some m):
  ∀(its:List It) (d:List Nat) (s:S),Fine l p d->Closed mem vis ok l d s->(pS v rec its d s).1=0->
  Fol mem vis ok l p d s (pS v rec its d s).2.1 (pS v rec its d s).2.2 (fun u=>∃x,x∈its/\((x.kind≠3/\vis x u)\/(x.kind=3/\Lead l vis x.name u)))/\
  (∀x,x∈its->x.kind≠3->ok x=true/\∀u,vis x u->mem (pS v rec its d s).2.2 u)/\∀x,x∈its->x.kind=3->∃m,m∈(pS v rec its d s).2.1/\lR l x.name=some m
 |[],d,s,hf,hc,_=>⟨⟨hf,hc,fun _ h=>h,fun _ h=>h,fun _ h=>.inl h⟩,fun x h=>(by cases h),fun x h=>(by cases h)⟩
 |x::r,d,s,hf,hc,h=>by
  rw[pC]at h⊢;have hq:(if x.kind=3 then rec x.name d s else((v x s).1,d,(v x s).2)).1=0->
    Fol mem vis ok l p d s (if x.kind=3 then rec x.name d s else((v x s).1,d,(v x s).2)).2.1 (if x.kind=3 then rec x.name d s else((v x s).1,d,(v x s).2)).2.2 (fun u=>(x.kind≠3/\vis x u)\/(x.kind=3/\Lead l vis x.name u))/\
    (x.kind≠3->ok x=true/\∀u,vis x u->mem (if x.kind=3 then rec x.name d s else((v x s).1,d,(v x s).2)).2.2 u)/\(x.kind=3->∃m,m∈(if x.kind=3 then rec x.name d s else((v x s).1,d,(v x s).2)).2.1/\lR l x.name=some m):=by
   by_cases hk:x.kind=3
   ·rw[aH hk];intro h0;obtain⟨g,gm⟩:=hrec x.name d s hf hc h0;exact⟨⟨g.fine,g.closed,g.sub,g.up,fun u hu=>(g.dn u hu).imp id fun hl=>.inr ⟨hk,hl⟩⟩,fun hn=>absurd hk hn,fun _=>gm⟩
   ·rw[aF hk];intro h0;have ha:=hv.add x s h0;exact⟨⟨hf,⟨fun n hn df hdf y hy hy3 u hu=>(ha u).2 (.inl (hc.it n hn df hdf y hy hy3 u hu)),hc.nm,hc.good⟩,fun _ h=>h,fun u hu=>(ha u).2 (.inl hu),fun u hu=>((ha u).1 hu).imp id fun hx=>.inl ⟨hk,hx⟩⟩,
     fun _=>⟨(hv.ok x s).1 h0,fun u hu=>(ha u).2 (.inr hu)⟩,fun h3=>absurd h3 hk⟩
  generalize (if x.kind=3 then rec x.name d s else((v x s).1,d,(v x s).2))=q at*;by_cases h0:q.1=0
  ·rw[aH h0]at h⊢;obtain⟨g,g1,g2⟩:=hq h0;obtain⟨f,f1,f2⟩:=Qw hrec r q.2.1 q.2.2 g.fine g.closed h;refine⟨⟨f.fine,f.closed,fun n hn=>f.sub n (g.sub n hn),fun u hu=>f.up u (g.up u hu),fun u hu=>?_⟩,fun y hy hy3=>?_,fun y hy hy3=>?_⟩
   ·rcases f.dn u hu with h1|⟨y,hy,h1⟩
    ·rcases g.dn u h1 with h1|h1
     ·exact .inl h1
     ·exact .inr ⟨x,by simp,h1⟩
    ·exact .inr ⟨y,aS _ hy,h1⟩
   ·rcases aZ.1 hy with rfl|hy
    ·exact⟨(g1 hy3).1,fun u hu=>f.up u ((g1 hy3).2 u hu)⟩
    ·exact f1 y hy hy3
   ·rcases aZ.1 hy with rfl|hy
    ·obtain⟨m,hm,hfm⟩:=g2 hy3;exact⟨m,f.sub m hm,hfm⟩
    ·exact f2 y hy hy3
  ·rw[aF h0]at h;exact absurd h h0
theorem Wh(l:List Df):∀(k:Nat) (p:List Nat) (nm:ByteArray) (d:List Nat) (s:S),Fine l p d->Closed mem vis ok l d s->(fol v l k p nm d s).1=0->
  Fol mem vis ok l p d s (fol v l k p nm d s).2.1 (fol v l k p nm d s).2.2 (Lead l vis nm)/\∃m,m∈(fol v l k p nm d s).2.1/\lR l nm=some m
 |0,p,nm,d,s,hf,hc,h=>by simp[fol]at h
 |k+1,p,nm,d,s,hf,hc,h=>by
  unfold fol at h⊢;cases hn:lR l nm with
  |none=>simp[hn]at h
  |some n=>
   simp only[hn]at h⊢;split at h
   ·simp at h
   rename_i hp;rw[aF hp];split at h
   ·rename_i hd;rw[aH hd];exact⟨⟨hf,hc,fun _ h=>h,fun _ h=>h,fun _ h=>.inl h⟩,n,hd,rfl⟩
   rename_i hd;rw[aF hd];obtain⟨df,hdf,hname,_⟩:=lK hn;simp only[hdf,dG,cY]at h⊢;have hpush:=hf.push hn hp hd;split at h
   ·rename_i h0;rw[aH h0];obtain⟨g,g1,g2⟩:=Qw v mem vis ok hv (fun nm d s hf hc h=>Wh l k (p++[n]) nm d s hf hc h) df.items d s hpush hc h0;simp only;have hgood:Good l ok nm:=.mk hn hdf (fun x hx h3=>(g1 x hx h3).1) fun x hx h3=>by
     obtain⟨m,hm,hfm⟩:=g2 x hx h3;exact g.closed.good m hm x.name hfm
    refine⟨⟨g.fine.pop hn,⟨fun m hm e he x hx h3 u hu=>?_,fun m hm e he x hx h3=>?_,fun m hm nm2 hf2=>?_⟩,fun m hm=>cF _ (g.sub m hm),g.up,fun u hu=>?_⟩,n,by simp,rfl⟩
    ·rcases aX.1 hm with hm|hm
     ·exact g.closed.it m hm e he x hx h3 u hu
     ·rw[aU.1 hm,hdf]at he;cases he;exact(g1 x hx h3).2 u hu
    ·rcases aX.1 hm with hm|hm
     ·obtain⟨m2,h1,h2⟩:=g.closed.nm m hm e he x hx h3;exact⟨m2,cF _ h1,h2⟩
     ·rw[aU.1 hm,hdf]at he;cases he;obtain⟨m2,h1,h2⟩:=g2 x hx h3;exact⟨m2,cF _ h1,h2⟩
    ·rcases aX.1 hm with hm|hm
     ·exact g.closed.good m hm nm2 hf2
     ·rw[aU.1 hm]at hf2;obtain⟨df2,hdf2,hname2,_⟩:=lK hf2;rw[hdf]at hdf2;cases hdf2;rw[<-hname2,hname];exact hgood
    ·rcases g.dn u hu with h1|⟨x,hx,⟨h3,h4⟩|⟨h3,h4⟩⟩
     ·exact .inl h1
     ·exact .inr (.here hn hdf hx h3 h4)
     ·exact .inr (.there hn hdf hx h3 h4)
   ·rename_i h0;exact absurd h h0
theorem Qy(l:List Df)(nm:ByteArray)(s:S)(hs:∀u,¬mem s u)(h:(fol v l (l.length+1) [] nm [] s).1=0):
  Good l ok nm/\∀u,mem (fol v l (l.length+1) [] nm [] s).2.2 u↔Lead l vis nm u:=by
 obtain⟨g,m,hm,hf⟩:=Wh v mem vis ok hv l (l.length+1) [] nm [] s (We l) ⟨fun n h=>(by cases h),fun n h=>(by cases h),fun n h=>(by cases h)⟩ h;refine⟨g.closed.good m hm nm hf,fun u=>⟨fun hu=>?_,fun hl=>Y1 mem vis ok g.closed hl m hm hf⟩⟩;rcases g.dn u hu with h1|h1
 ·exact absurd h1 (hs u)
 ·exact h1
end
def aHb:Ctx:={N:=8}
abbrev aEb:=ofD aHb Tryz.func261
def aOg:Ctx:={N:=8}
abbrev aJd:=ofD aOg Tryz.func189
def aUL:Ctx:={N:=25,hints:=h1 2 [.virt 5 1] hn}
abbrev aQF:=ofD aUL Tryz.func260
def aUM:Ctx:={N:=19}
abbrev aDZ:=ofD aUM Tryz.func284
def aOf:Ctx:={N:=8}
abbrev aJc:=ofD aOf Tryz.func294
def aWy:Ctx:={N:=14,np:=2,out:=true}
abbrev aVH:=ofD aWy Tryz.func184
def aWz:Ctx:={N:=37,np:=4,own:=oz [184],plan:=p1 10 (lp 7 [14]) pn,hints:=h1 0 [.renewI 2 0] hn,out:=true}
abbrev aVI:=ofD aWz Tryz.func188
def Ag:Sched:=lp 5 [10,13]
def aUI:Ctx:={N:=77,np:=7,own:=oz [259,188],plan:=p1 4 Ag (p1 6 Ag (p1 8 Ac (p1 9 Ac (p1 16 Ag (p1 20 Ac pn))))),hints:=h1 0 [.renewI 5 0] hn,out:=true,lend:=oz [284]}
abbrev aQC:=ofD aUI Tryz.func259
def aHa:Ctx:={N:=15,np:=4,own:=oz [259],out:=true}
abbrev aEa:=ofD aHa Tryz.func187
def aUK:Ctx:={N:=40,own:=oz [187,184],hints:=h1 2 [.virtB 8 0 2] hn}
abbrev aQE:=ofD aUK Tryz.func111
def aGZ:Ctx:={N:=22}
abbrev aDY:=ofD aGZ Tryz.func122
def aWA:Ctx:={N:=8,np:=2,out:=true}
abbrev aVJ:=ofD aWA Tryz.func191
def aUJ:Ctx:={N:=77,np:=5,own:=oz [259,191],plan:=p1 4 Ag (p1 6 Ag (p1 8 Ac (p1 9 Ac (p1 16 Ag (p1 20 Ac pn))))),hints:=h1 0 [.renewI 3 0] hn,out:=true,lend:=oz [284]}
abbrev aQD:=ofD aUJ Tryz.func259
def aUN:Ctx:={N:=15,np:=2,own:=oz [259],out:=true}
abbrev aQG:=ofD aUN Tryz.func187
def aUO:Ctx:={N:=64,own:=oz [187],plan:=p1 14 By pn,hints:=h1 4 [.virtB 6 0 7] (h1 8 [.freezeB 6,.asL 8] hn)}
abbrev aQH:=ofD aUO Tryz.func112
theorem aLU(d:Df)(s:ByteArray){K:KT}(hK:K (.sb (sEq d.name s)) []):AC 294 [iQ d,.fp [.v (.string s)]] [] K:=by
 refine aJc rfl rfl ?_;(repeat' ((conv=>whnf);first|refine zG ?_|apply zA|intro h|exact zT));all_goals conv=>whnf
 exact hK
theorem V3(l:List Df)(s:ByteArray)(hl:l.length<1000000){K:KT}(hK:K (.v (.int .i64 (jM (fun d=>sEq d.name s) l))) []):
  AC 284 [.lst (l.map iQ),.fn (.func 294) [] [.fp [.v (.string s)]]] [] K:=by
 refine aDZ rfl rfl ?_;(repeat' ((conv=>whnf);first|refine zG ?_|apply zA|intro h|exact zT));all_goals conv=>whnf
 refine gV Nat (fun k=>⟨0,[],[(0,.lst (l.map iQ)),(1,.fn (.func 294) [] [.fp [.v (.string s)]]),(7,.v (.int .i64 (l.map iQ).length)),(8,.v (.int .i64 k))]⟩) (fun k=>k<=l.length/\∀(i:Nat) y,i<k->l[i]? =some y->sEq y.name s=false) (fun k=>l.length-k) 0 ⟨aK _,fun i y hi=>absurd hi (bD _)⟩ ?_ ?_
 ·exact leA
 intro k ⟨hk,hinv⟩;rcases aD k l.length with hkl|hkl
 ·obtain⟨r,hr⟩:=gex hkl;(repeat' ((conv=>whnf);first|(with_reducible first|refine iI hkl ?_|refine iH hr ?_|refine aLU r s ?_)|refine zG ?_|apply zA|intro h|exact zT));all_goals conv=>whnf
  ·rw[jN hr h hinv]at hK;exact hK
  ·refine⟨k+1,⟨by omega,jJ hr h hinv⟩,by omega,?_⟩;rw[aN,aM];exact leA
 ·(repeat' ((conv=>whnf);first|refine zG ?_|apply zA|intro h|exact zT));all_goals conv=>whnf
  rw[jS (iL hkl hinv)]at hK;exact hK
def ixs(p:Ed->Bool)(l:List Ed)(k:Nat):List Nat:=(List.range k).filter fun i=>match l[i]? with
 |some e=>p e
 |none=>false
theorem Jv(p:Ed->Bool){l:List Ed}{k:Nat}{e:Ed}(h:l[k]? =some e):ixs p l (k+1)=ixs p l k++if p e=true then [k]else []:=by
 rw[ixs,List.range_succ,dP,<-ixs]
 congr 1
 rw[fH,List.filter_nil];simp only[h]
theorem uV(p:Ed->Bool)(l:List Ed)(k:Nat):(ixs p l k).length<=k:=by
 have:=dK (fun i=>match l[i]? with
  |some e=>p e
  |none=>false) (List.range k)
 rw[fL]at this;exact this
theorem T7{p:Ed->Bool}{l:List Ed}{k n:Nat}(h:n∈ixs p l k):n<k/\∃e,l[n]? =some e/\p e=true:=by
 rw[ixs,cR,eG]at h;refine⟨h.1,?_⟩;cases he:l[n]? with
 |none=>simp[he]at h
 |some e=>exact⟨e,rfl,by simpa[he]using h.2⟩
theorem aFz(e:Ed)(s:ByteArray){K:KT}(hK:K (.sb (sEq e.zone s)) []):AC 261 [lY e,.fp [.v (.string s)]] [] K:=by
 refine aEb rfl rfl ?_;(repeat' ((conv=>whnf);first|refine zG ?_|apply zA|intro h|exact zT));all_goals conv=>whnf
 exact hK
theorem aSt(t:Tp)(s:ByteArray)(hl:t.edges.length<1000){K:KT}(hK:K (.lst ((ixs (fun e=>sEq e.zone s) t.edges t.edges.length).map vN)) []):
  AC 260 [jT t,.fn (.func 261) [] [.fp [.v (.string s)]]] [] K:=by
 refine aQF rfl rfl ?_;(repeat' ((conv=>whnf);first|refine zG ?_|apply zA|intro h|exact zT));all_goals conv=>whnf
 refine gV (Nat×List Nat) (fun g=>⟨2,[(1,.arr 1 (g.2.map vN))],[(1,.fn (.func 261) [] [.fp [.v (.string s)]]),(5,.os 1 1 0 g.2.length),(9,.lst (t.edges.map lY)),(10,.v (.int .i64 (t.edges.map lY).length)),(11,.v (.int .i64 g.1))]⟩)
  (fun g=>g.1<=t.edges.length/\g.2=ixs (fun e=>sEq e.zone s) t.edges g.1) (fun g=>t.edges.length-g.1) (0,[]) ⟨aK _,rfl⟩ ?_ ?_
 ·exact leA
 rintro⟨k,out⟩ ⟨hk,ho⟩
 simp only at hk ho⊢;have hol:out.length<=k:=by rw[ho];exact uV _ _ _
 rcases aD k t.edges.length with hkl|hkl
 ·obtain⟨e,he⟩:=gex hkl;have hs:=Jv (fun e=>sEq e.zone s) he;rw[<-ho]at hs;(repeat' ((conv=>whnf);first|(with_reducible first|refine iI hkl ?_|refine iH he ?_|refine aFz e s ?_)|refine zG ?_|apply zA|intro h|exact zT));all_goals conv=>whnf
  ·refine⟨(k+1,out++[k]),⟨hkl,by rw[hs,aH h]⟩,by simp only;omega,?_⟩;simp only[aQ,aC,aR,bI,aB,aI,aN,aM];exact leA
  ·refine⟨(k+1,out),⟨hkl,by rw[hs,aF (by simp[h]),bG]⟩,by simp only;omega,?_⟩;simp only[aN,aM];exact leA
 ·obtain rfl:k=t.edges.length:=by omega
  rw[<-ho]at hK;(repeat' ((conv=>whnf);first|(with_reducible refine iT (aA ..) ?_)|refine zG ?_|apply zA|intro h|exact zT));all_goals conv=>whnf
  exact hK
theorem aLX(t:Tp)(s:ByteArray)(hl:t.edges.length<1000){K:KT}(hK:K (.lst ((ixs (fun e=>sEq e.zone s) t.edges t.edges.length).map vN)) []):AC 189 [jT t,.v (.string s)] [] K:=by
 refine aJd rfl rfl ?_;(repeat' ((conv=>whnf);first|(with_reducible refine aSt t s hl ?_)|refine zG ?_|apply zA|intro h|exact zT));all_goals conv=>whnf
 exact hK
abbrev Eb(i n:Nat):Vm.Obj:=.box [.os i 2 0 n]
abbrev Hf(rs:List Rg):Vm.Obj:=.arr 2 (rs.map encR)
theorem aBf(p:Pf)(rs:List Rg)(hl:rs.length<1000000000000){K:KT}(hK:K (.tup []) [Eb 2 (rs++[p.rg]).length,.box [],Hf (rs++[p.rg])]):
  AC 184 [lN p,.op 0 0] [Eb 1 rs.length,Hf rs] K:=by
 refine aVH rfl rfl ?_;(repeat' ((conv=>whnf);first|(with_reducible refine aWq p ?_)|refine zG ?_|apply zA|intro h|exact zT));all_goals conv=>whnf
 simp only[Eb,Hf,aC,aQ]at hK;exact hK
def vP(t:Tp)(i:Nat):Rg:=match t.edges[i]? with
 |some e=>e.pf.rg
 |none=>⟨0,0,by decide,by decide,by decide,by decide⟩
def nF(t:Tp)(x:It)(rs:List Rg):Int×List Rg:=
 if x.kind=2 then(0,rs++[x.pf.rg])else if ixs (fun e=>sEq e.zone x.name) t.edges t.edges.length=[]then(5,rs)else(0,rs++(ixs (fun e=>sEq e.zone x.name) t.edges t.edges.length).map (vP t))
abbrev adO(i:Nat):Vm.Obj:=.box [.fn (.func 184) [] [.op i 0]]
theorem aSv(t:Tp)(x:It)(rs:List Rg)(hl:t.edges.length<1000)(hr:rs.length<100000000000){K:KT}(hK:K (.v (.int .i64 (nF t x rs).1)) [adO 2,kM t,Eb 4 (nF t x rs).2.length,.box [],Hf (nF t x rs).2]):
  AC 188 [lA x,.op 0 0,.op 1 0] [adO 2,kM t,Eb 3 rs.length,Hf rs] K:=by
 refine aVI rfl rfl ?_;(repeat' ((conv=>whnf);first|(with_reducible first|refine aBf x.pf rs zo ?_|refine aLX t x.name hl ?_)|refine zG ?_|apply zA|intro h|exact zT));all_goals conv=>whnf
 ·rw[nF,aH h]at hK;exact hK
 ·have h0:ixs (fun e=>sEq e.zone x.name) t.edges t.edges.length=[]:=cT.1 (by rw[aA]at h;omega);rw[nF,aF zp,aH h0]at hK;exact hK
 have hne:ixs (fun e=>sEq e.zone x.name) t.edges t.edges.length≠[]:=fun e=>h (by rw[e];rfl);rw[nF,aF zp,aF hne]at hK;have hlt:=fun n hn=>@T7 (fun e=>sEq e.zone x.name) t.edges t.edges.length n hn;have hll:=uV (fun e=>sEq e.zone x.name) t.edges t.edges.length;generalize ixs (fun e=>sEq e.zone x.name) t.edges t.edges.length=L at*;refine gV (Nat×List Rg) (fun g=>⟨5,[(0,adO 2),(1,kM t),(2,Eb 4 g.2.length),(4,Hf g.2)],[(1,.op 0 0),(2,.op 1 0),(22,.lst (L.map vN)),(23,.v (.int .i64 (L.map vN).length)),(24,.v (.int .i64 g.1))]⟩)
  (fun g=>g.1<=L.length/\g.2=rs++(L.take g.1).map (vP t)) (fun g=>L.length-g.1) (0,rs) ⟨aK _,by simp⟩ ?_ ?_
 ·exact leA
 rintro⟨k,out⟩ ⟨hk,ho⟩
 simp only at hk ho⊢;have hol:out.length=rs.length+k:=by rw[ho,aC,aA,aV];omega
 rcases aD k L.length with hkl|hkl
 ·obtain⟨n,hn⟩:=gex hkl;obtain⟨hnl,e,he,_⟩:=hlt n (aG hn);have hrg:vP t n=e.pf.rg:=by rw[vP,he]
  (repeat' ((conv=>whnf);first|(with_reducible first|refine iI hkl ?_|refine iH hn ?_|refine iI hnl ?_|refine iH he ?_|refine aBf e.pf out zo ?_)|refine zG ?_|apply zA|intro h|exact zT));all_goals conv=>whnf
  refine⟨(k+1,out++[e.pf.rg]),⟨hkl,?_⟩,by simp only;omega,?_⟩
  ·simp only;rw[ho,bE,hn,aQ,cM];simp[hrg]
  ·simp only[aN,aM];exact leA
 ·have hke:k=L.length:=by omega
  rw[hke,dF]at ho;rw[<-ho]at hK;(repeat' ((conv=>whnf);first|refine zG ?_|apply zA|intro h|exact zT));all_goals conv=>whnf
  exact hK
abbrev foO(l:List Df):Vm.Obj:=.box [.lst (l.map iQ),.mp 1,.mp 2,.fn (.func 188) [] [.op 3 0,.op 4 0]]
theorem X3{t:Tp}(ht:t.edges.length<1000)(x:It)(rs:List Rg)(h:(nF t x rs).1=0):(nF t x rs).2.length<=rs.length+1000:=by
 unfold nF at h⊢;have hll:=uV (fun e=>sEq e.zone x.name) t.edges t.edges.length;split
 ·rw[aC];simp
 ·split
  ·simp
  ·rw[aC,aA];omega
theorem aKx(t:Tp)(ht:t.edges.length<1000)(l:List Df)(hl:l.length<=999)(hit:∀d,d∈l->d.items.length<=999):∀(k:Nat) (p:List Nat) (nm:ByteArray) (d:List Nat) (rs:List Rg),Fine l p d->p.length+k=l.length+1->rs.length<=1000000*(d.length+p.length)->∀{K:KT},
  K (.v (.int .i64 (fol (nF t) l k p nm d rs).1)) [foO l,.map (mW l p),.map (mW l (fol (nF t) l k p nm d rs).2.1),adO 5,kM t,Eb 7 (fol (nF t) l k p nm d rs).2.2.length,.box [],Hf (fol (nF t) l k p nm d rs).2.2]->
  AC 259 [.op 0 0,.v (.string nm)] [foO l,.map (mW l p),.map (mW l d),adO 5,kM t,Eb 6 rs.length,Hf rs] K
 |0,p,nm,d,rs,hf,hk,hrs,K,hK=>by
  have:=hf.small;omega
 |k+1,p,nm,d,rs,hf,hk,hrs,K,hK=>by
  refine aQC rfl rfl ?_;have hsm:=hf.small;cases hn:lR l nm with
  |none=>
   have hix:∀{K:KT},K (.v (.int .i64 (-1))) []->AC 284 [.lst (l.map iQ),.fn (.func 294) [] [.fp [.v (.string nm)]]] [] K:=fun {K} h=>
    V3 l nm zo (by rw[mJ,hn];exact h)
   simp only[fol,hn]at hK;(repeat' ((conv=>whnf);first|(with_reducible refine hix ?_)|refine zG ?_|apply zA|intro h|exact zT));all_goals conv=>whnf
   exact hK
  |some n=>
   obtain⟨df,hdf,hname,hnl⟩:=lK hn;have hix:∀{K:KT},K (.v (.int .i64 n)) []->AC 284 [.lst (l.map iQ),.fn (.func 294) [] [.fp [.v (.string nm)]]] [] K:=fun {K} h=>
    V3 l nm zo (by rw[mJ,hn];exact h)
   by_cases hp:n∈p
   ·simp only[fol,hn,aH hp]at hK;(repeat' ((conv=>whnf);first|(with_reducible first|refine hix ?_|refine H1 (wR hn hp) ?_)|refine zG ?_|apply zA|intro h|exact zT));all_goals conv=>whnf
    exact hK
   by_cases hd:n∈d
   ·simp only[fol,hn,aF hp,aH hd]at hK;(repeat' ((conv=>whnf);first|(with_reducible first|refine hix ?_|refine xU (qE hf.pf hn hp) ?_|refine H1 (wR hn hd) ?_)|refine zG ?_|apply zA|intro h|exact zT));all_goals conv=>whnf
    exact hK
   simp only[fol,hn,aF hp,aF hd,hdf,dG,cY]at hK;(repeat' ((conv=>whnf);first|(with_reducible first|refine hix ?_|refine xU (qE hf.pf hn hp) ?_|refine xU (qE hf.df hn hd) ?_|refine iG (updM_name hn) ?_|refine iI hnl ?_|refine iH hdf ?_)|refine zG ?_|apply zA|intro h|exact zT));all_goals conv=>whnf
   have hpush:=hf.push hn hp hd;have hfed:=fun(q:Nat) nm d s h h0=>Hx (nF t) List.length (X3 ht) l hit q (p++[n]) nm d s h h0;have hlen:=hit df (aG hdf);refine gV (Nat×List Nat×List Rg) (fun g=>⟨9,[(0,foO l),(1,.map (mW l (p++[n]))),(2,.map (mW l g.2.1)),(3,adO 5),(4,kM t),(5,Eb 7 g.2.2.length),(7,Hf g.2.2),(8,.box [.v (.string nm)])],[(0,.op 0 0),(3,.op 8 0),(49,.lst (df.items.map lA)),(50,.v (.int .i64 (df.items.map lA).length)),(51,.v (.int .i64 g.1)),(DS,.dfr 1 nm)]⟩)
    (fun g=>g.1<=df.items.length/\Fine l (p++[n]) g.2.1/\pS (nF t) (fol (nF t) l k (p++[n])) df.items d rs=pS (nF t) (fol (nF t) l k (p++[n])) (df.items.drop g.1) g.2.1 g.2.2/\d.length<=g.2.1.length/\g.2.2.length+1000000*d.length<=rs.length+1000000*g.2.1.length+1000*g.1)
    (fun g=>df.items.length-g.1) (0,d,rs) ⟨aK _,hpush,by rw[bP],aO _,by simp only;omega⟩ ?_ ?_
   ·exact leA
   rintro⟨i,d1,rs1⟩ ⟨hi,hf1,heq,hd1,hsz⟩
   simp only at hi hf1 heq hd1 hsz⊢;rcases aD i df.items.length with hil|hil
   ·obtain⟨x,hx⟩:=gex hil;have hdr:df.items.drop i=x::df.items.drop (i+1):=by
     rw[bA hil]
     congr 1
     rw[aE hil]at hx;cases hx;rfl
    rw[hdr,pC]at heq;have hsm1:=hf1.small;rw[aC,cQ]at hsm1;by_cases hk3:x.kind=3
    ·simp only[aH hk3]at heq;have hc:=fun {K} h=>@aKx t ht l hl hit k (p++[n]) x.name d1 rs1 hf1 (by rw[aC];simp only[cQ];omega) (by rw[aC];simp only[cQ];omega) K h;have hfq:=hfed k x.name d1 rs1 hf1;generalize fol (nF t) l k (p++[n]) x.name d1 rs1=q at*;obtain⟨qe,qd,qs⟩:=q;simp only at heq hc hfq;(repeat' ((conv=>whnf);first|(with_reducible first|refine iI hil ?_|refine iH hx ?_|refine hc ?_|refine iG (delM_name hf.pf hn hp) ?_)|refine zG ?_|apply zA|intro h|exact zT));all_goals conv=>whnf
     all_goals first
      |(have hne:¬qe=0:=by first|assumption|(intro e;simp_all;done)
        rw[heq,aF hne]at hK;simp only[aF hne]at hK;exact hK)
      |(have h0:qe=0:=by first|assumption|(simp_all;done)
        have hfq:=hfq h0;refine⟨(i+1,qd,qs),⟨hil,hfq.fine,by rw[heq,aH h0],by have:=hfq.le;simp only;omega,by have:=hfq.size;simp only;omega⟩,by simp only;omega,?_⟩;simp only[aN,aM];exact leA)
    ·simp only[aF hk3]at heq;have hc:=fun {K} h=>@aSv t x rs1 ht zo K h;have hvz:=X3 ht x rs1;generalize nF t x rs1=q at*;obtain⟨qe,qs⟩:=q;simp only at heq hc hvz;(repeat' ((conv=>whnf);first|(with_reducible first|refine iI hil ?_|refine iH hx ?_|refine hc ?_|refine iG (delM_name hf.pf hn hp) ?_)|refine zG ?_|apply zA|intro h|exact zT));all_goals conv=>whnf
     all_goals first
      |(have hne:¬qe=0:=by first|assumption|(intro e;simp_all;done)
        rw[heq,aF hne]at hK;simp only[aF hne]at hK;exact hK)
      |(have h0:qe=0:=by first|assumption|(simp_all;done)
        have hvz:=hvz h0;refine⟨(i+1,d1,qs),⟨hil,hf1,by rw[heq,aH h0],by skip;simp only;omega,by skip;simp only;omega⟩,by simp only;omega,?_⟩;simp only[aN,aM];exact leA)
   ·have hie:i=df.items.length:=by omega
    rw[hie,List.drop_length,I7]at heq;rw[heq]at hK;simp only[if_true]at hK;(repeat' ((conv=>whnf);first|(with_reducible first|refine iG (updM_name hn) ?_|refine iG (delM_name hf.pf hn hp) ?_)|refine zG ?_|apply zA|intro h|exact zT));all_goals conv=>whnf
    exact hK
def g47:Ctx:={N:=10}
abbrev aWV:=ofD g47 Tryz.func291
def g48:Ctx:={N:=20}
abbrev aWW:=ofD g48 Tryz.func292
def g54:Ctx:={N:=6}
abbrev aWZ:=ofD g54 Tryz.func309
theorem c54(x:Int){K:KT}(hK:K (.sb false) []):AC 309 [.v (.int .u32 x)] [] K:=by
 refine aWZ rfl rfl ?_
 iterate 4 (all_goals((conv=>whnf);first|refine zG ?_|apply zA|intro h|exact zT|skip))
 have e:(!decide (x=x))=false:=by simp
 unfold D9;rw[e];exact hK
def g39:Ctx:={N:=72,own:=oz [290],plan:=p1 13 (lo 16) (p1 14 (lp 14 [28]) pn),hints:=h1 2 [.virt 3 2,.virt 4 2] hn}
abbrev aWS:=ofD g39 Tryz.func257
def aKh:Prop:=∀(d:List Rg) (n:Nat),n=d.length->d.length<1000000->∀K:AV->List Vm.Obj->Prop,(∀d':List Rg,d'.Perm d->d'.Pairwise (fun r s=>r.lo<=s.lo)->K (.tup []) [.arr 2 (d'.map encR)])->
 AC 290 [.os 0 2 0 n,.fn (.func 291) [] []] [.arr 2 (d.map encR)] K
def mP(out:List Rg)(r:Rg):List Rg:=
 match out.getLast? with
 |some p=>if r.lo<=p.hi+1 then out.dropLast++[mkR p.lo (max p.hi r.hi)]else out++[r]
 |none=>[r]
theorem tN(out:List Rg)(r:Rg):(mP out r).length<=out.length+1:=by
 unfold mP;split
 ·split<;>simp
 ·simp
theorem Un{out:List Rg}{r:Rg}(hc:Canon out)(hlo:∀p,p∈out->p.lo<=r.lo)(hr:r.lo<=r.hi):Canon (mP out r)/\(∀v,has (mP out r) v=(has out v||has [r] v))/\∀p,p∈mP out r->p.lo<=r.lo:=by
 have b1:=r.l0;have b2:=r.l1;have b3:=r.h0;have b4:=r.h1;unfold mP;rcases dI out with hnil|⟨ini,p,hcat⟩
 ·subst hnil;refine⟨?_,fun v=>by simp[has],fun p hp=>by simp at hp;subst hp;exact cC _⟩;have:=kZ rV hr (fun s hs=>by simp at hs);simpa using this
 ·rw[dJ]at hcat;subst hcat;simp only[cW,cO,dT,dM];have p1:=p.l0;have p2:=p.l1;have p3:=p.h0;have p4:=p.h1;have hpw:=dN.1 hc.2;have hp1:=hc.1 p zx;have hp2:=hlo p zx;have hx:0<=max p.hi r.hi/\max p.hi r.hi<=4294967295:=by omega
  split
  ·rename_i he;have ci:Canon ini:=⟨fun t ht=>hc.1 t (by simp[ht]),hpw.1⟩
   refine⟨kZ ci (by rw[kI p1 p2 hx.1 hx.2,kP p1 p2 hx.1 hx.2];omega) (fun s hs=>by rw[kI p1 p2 hx.1 hx.2];exact hpw.2.2 s hs p zx),fun v=>?_,fun q hq=>?_⟩
   ·rw[nW,nW,sZ,sZ,sZ,kI p1 p2 hx.1 hx.2,kP p1 p2 hx.1 hx.2,Bool.or_assoc]
    congr 1
    rw[bK];simp only[bV,aJ,aL];omega
   ·rcases aX.1 hq with hq|hq
    ·exact hlo q (by simp[hq])
    ·simp at hq;subst hq;rw[kI p1 p2 hx.1 hx.2];exact hp2
  ·rename_i he;refine⟨kZ hc hr (fun s hs=>?_),fun v=>nW _ _ v,fun q hq=>?_⟩
   ·rcases aX.1 hs with hs|hs
    ·have:=hpw.2.2 s hs p zx;omega
    ·simp at hs;subst hs;omega
   ·rcases aX.1 hq with hq|hq
    ·exact hlo q hq
    ·simp at hq;subst hq;exact cC _
theorem I9:∀(d out:List Rg),Canon out->(∀p,p∈out->∀r,r∈d->p.lo<=r.lo)->d.Pairwise (fun r s=>r.lo<=s.lo)->(∀r,r∈d->r.lo<=r.hi)->
  Canon (d.foldl mP out)/\(∀v,has (d.foldl mP out) v=(has out v||has d v))/\(d.foldl mP out).length<=out.length+d.length
 |[],out,hc,_,_,_=>⟨hc,fun v=>by simp[has],by simp⟩
 |r::d,out,hc,hlo,hp,hok=>by
  have⟨hp1,hp2⟩:=cG.1 hp;obtain⟨h1,h2,h3⟩:=Un hc (fun p hpm=>hlo p hpm r zx) (hok r zx);obtain⟨g1,g2,g3⟩:=I9 d (mP out r) h1 (fun p hpm s hs=>Int.le_trans (h3 p hpm) (hp1 s hs)) hp2 (fun s hs=>hok s (by simp[hs]));refine⟨g1,fun v=>?_,?_⟩
  ·rw[fJ,g2,h2,Bool.or_assoc,<-nW];rfl
  ·have:=tN out r;simp only[fJ,aB];omega
def okR(r:Rg):Bool:=decide (r.lo<=r.hi)
theorem c39(hs:aKh)(l:List Rg)(hl:l.length<100000){K:KT}(hK:∀c,Canon c->(∀v,has c v=has l v)->c.length<=l.length->K (iR c) []):AC 257 [iR l] [] K:=by
 refine aWS rfl rfl ?_;(conv=>whnf)
 refine gV Nat (fun k=>⟨2,[(0,.arr 2 (((l.take k).filter okR).map encR)),(1,.arr 2 [])],[(3,.os 0 2 0 ((l.take k).filter okR).length),(4,.os 1 2 0 0),(10,iR l),(11,.v (.int .i64 (l.map encR).length)),(12,.v (.int .i64 k))]⟩) (fun k=>k<=l.length) (fun k=>l.length-k) 0 ?_ ?_ ?_
 ·exact aK _
 ·exact⟨[(0,0),(1,1)],rfl,⟨rfl,rfl,rfl,rfl,rfl,trivial⟩,⟨rfl,rfl,trivial⟩⟩
 ·intro k hk;rcases aD k l.length with hkl|hkl
  ·obtain⟨r,hr⟩:=gex hkl;have b1:=r.l0;have b2:=r.l1;have b3:=r.h0;have b4:=r.h1;have e:(l.take (k+1)).filter okR=(l.take k).filter okR++(if r.lo<=r.hi then [r]else []):=by
    rw[bE,hr,eH,dP];simp only[okR,fH,List.filter_nil,aL]
   have hlen:((l.take k).filter okR).length<=l.length:=bC (dK _ _) (by rw[aV];omega)
   iterate 30 (all_goals((conv=>whnf);first|(with_reducible first|refine iI hkl ?_|refine iH hr ?_)|refine zG ?_|apply zA|intro h|exact zT|skip))
   ·refine⟨k+1,by omega,by omega,?_⟩;rw[e,aH zp,aQ,aC];exact⟨[(0,4),(1,1)],rfl,⟨rfl,rfl,rfl,rfl,rfl,trivial⟩,⟨rfl,rfl,trivial⟩⟩
   ·refine⟨k+1,by omega,by omega,?_⟩;rw[e,aF zp,bG];exact⟨[(0,0),(1,1)],rfl,⟨rfl,rfl,rfl,rfl,rfl,trivial⟩,⟨rfl,rfl,trivial⟩⟩
  ·rw[aW hkl];have hlen:(l.filter okR).length<=l.length:=dK _ _
   iterate 6 (all_goals((conv=>whnf);first|(with_reducible refine iI hkl ?_)|refine zG ?_|apply zA|intro h|exact zT|skip))
   refine hs (l.filter okR) _ rfl zo _ fun d hperm hsort=>?_;have hn:(l.filter okR).length=d.length:=hperm.length_eq.symm;rw[hn];(conv=>whnf)
   refine gV Nat (fun k=>⟨2,[(0,.arr 2 (d.map encR)),(1,.arr 2 (((d.take k).foldl mP []).map encR))],[(4,.os 1 2 0 ((d.take k).foldl mP []).length),(28,.os 0 2 0 d.length),(29,.v (.int .i64 d.length)),(30,.v (.int .i64 k))]⟩) (fun k=>k<=d.length/\((d.take k).foldl mP []).length<=k) (fun k=>d.length-k) 0 ?_ ?_ ?_
   ·exact⟨aK _,by simp⟩
   ·exact⟨[(0,0),(1,1)],rfl,⟨rfl,rfl,rfl,rfl,trivial⟩,⟨rfl,rfl,trivial⟩⟩
   ·intro k ⟨hk,hle⟩;rcases aD k d.length with hkl|hkl
    ·obtain⟨r,hr⟩:=gex hkl;have hr0:d[0+k]? =some r:=by rw[bM];exact hr
     have b1:=r.l0;have b2:=r.l1;have b3:=r.h0;have b4:=r.h1;have hs2:=uS (f:=mP) (b:=[]) hr;generalize hout:(d.take k).foldl mP []=out at hs2 hle⊢;have hj:(k:Int)<(d.length:Int):=by omega
     rcases dI out with hnil|⟨ini,p,hcat⟩
     ·subst hnil
      iterate 30 (all_goals((conv=>whnf);first|(with_reducible first|refine iB k rfl zo ?_|refine iH hr ?_|refine iH hr0 ?_)|refine zG ?_|apply zA|intro h|exact zT|skip))
      refine⟨k+1,⟨by omega,by rw[hs2];simp[mP]⟩,by omega,?_⟩;rw[hs2,show mP [] r=[r]from rfl];exact⟨[(0,0),(1,4)],rfl,⟨rfl,rfl,rfl,rfl,trivial⟩,⟨rfl,rfl,trivial⟩⟩
     ·rw[dJ]at hcat;subst hcat;have p1:=p.l0;have p2:=p.l1;have p3:=p.h0;have p4:=p.h1;have hp:(ini++[p])[ini.length]? =some p:=by simp
      have hp0:(ini++[p])[0+ini.length]? =some p:=by simp
      have hi:((((ini++[p]).length:Nat):Int)-1=ini.length)/\ini.length<(ini++[p]).length:=by simp
      iterate 40 (all_goals((conv=>whnf);first|(with_reducible first|refine iB k rfl zo ?_|refine iH hr ?_|refine iH hr0 ?_|refine iB ini.length hi.1 hi.2 ?_|refine iH hp ?_|refine iH hp0 ?_)|refine zG ?_|apply zA|intro h|exact zT|skip))
      ·have e:mP (ini++[p]) r=ini++[mkR p.lo (max p.hi r.hi)]:=by
        simp only[mP,cW,cO,dT,dM];rw[aH zp]
       refine⟨k+1,⟨by omega,by rw[hs2];have:=tN (ini++[p]) r;omega⟩,by omega,?_⟩;rw[hs2,e,aQ,aR,bI,Do zo zo zo zo];have e2:(ini.map encR++[.agg [.v (.int .u32 p.lo),.v (.int .u32 (max p.hi r.hi))]])=((ini++[p]).map encR).set (0+ini.length) (.agg [.v (.int .u32 p.lo),.v (.int .u32 (max p.hi r.hi))]):=by
        rw[aQ,dO _ _ zx];simp
       rw[e2,show(ini++[mkR p.lo (max p.hi r.hi)]).length=(ini++[p]).length by simp];exact⟨[(0,0),(1,1)],rfl,⟨rfl,rfl,rfl,rfl,trivial⟩,⟨rfl,rfl,trivial⟩⟩
      ·have e:mP (ini++[p]) r=ini++[p]++[r]:=by
        simp only[mP,cW,cO,dT,dM];rw[aF zp]
       refine⟨k+1,⟨by omega,by rw[hs2];have:=tN (ini++[p]) r;omega⟩,by omega,?_⟩;rw[hs2,e,aQ (l₁:=ini++[p]),show(ini++[p]++[r]).length=(ini++[p]).length+1 from by simp];exact⟨[(0,0),(1,4)],rfl,⟨rfl,rfl,rfl,rfl,trivial⟩,⟨rfl,rfl,trivial⟩⟩
    ·rw[aW hkl]at hle⊢
     iterate 8 (all_goals((conv=>whnf);first|refine zG ?_|apply zA|intro h|exact zT|skip))
     have hok:∀r,r∈d->r.lo<=r.hi:=fun r hr=>by
      have:=(cR.1 (hperm.subset hr)).2;simpa[okR]using this
     obtain⟨g1,g2,g3⟩:=I9 d [] rV (fun p hp=>by simp at hp) hsort hok;refine hK _ g1 (fun v=>?_) (by simp only[aI]at g3;omega);rw[g2,oT,fG,bK,has_iff,has_iff];constructor
     ·rintro⟨r,hr,h1,h2⟩
      exact⟨r,(cR.1 (hperm.subset hr)).1,h1,h2⟩
     ·rintro⟨r,hr,h1,h2⟩
      refine⟨r,hperm.symm.subset (cR.2 ⟨hr,?_⟩),h1,h2⟩;simp only[okR,aL];omega
def g49:Ctx:={N:=27,hints:=h1 6 [.virt 0 2] hn,res:=true}
abbrev aWX:=ofD g49 Tryz.func293
def g40:Ctx:={N:=36,own:=oz [293]}
abbrev aWT:=ofD g40 Tryz.func258
def aAL(x y:Int):Int:=if x<y then-1 else if y<x then 1 else 0
theorem c48(x y:Int){K:KT}(hK:K (.v (.int .i64 (aAL x y))) []):AC 292 [.v (.int .u32 x),.v (.int .u32 y)] [] K:=by
 refine aWW rfl rfl ?_
 iterate 20 (all_goals((conv=>whnf);first|(with_reducible refine c54 _ ?_)|refine zG ?_|apply zA|intro h|exact zT|skip))
 all_goals
  unfold aAL at hK
 ·rw[aH zp]at hK;exact hK
 ·rw[aF zp,aH zp]at hK;exact hK
 ·rw[aF zp,aF zp]at hK;exact hK
theorem c47(r s:Rg){K:KT}(hK:K (.v (.int .i64 (aAL r.lo s.lo))) []):AC 291 [.agg [.v (.int .u32 r.lo),.v (.int .u32 r.hi)],.agg [.v (.int .u32 s.lo),.v (.int .u32 s.hi)]] [] K:=by
 refine aWV rfl rfl ?_
 iterate 6 (all_goals((conv=>whnf);first|(with_reducible refine c48 _ _ ?_)|refine zG ?_|apply zA|intro h|exact zT|skip))
 exact hK
theorem aGS{n m:Nat}{c:AV}(hn:n<2000000)(hm:m<10000)(hc:c.cells.all AV.one=true):((List.replicate n c).length+96)*m<=140737488355328/\∀x,x∈List.replicate n c->x.cells.all AV.one=true:=by
 refine⟨?_,fun x hx=>by rw[eU hx];exact hc⟩;rw[List.length_replicate];have h1:(n+96)*m<=2000096*10000:=fP zo zo;omega
theorem c49(n:Nat)(hn:n<2000000){K:KT}(hK:∀xs,K (.os 0 2 0 0) [.arr 2 xs]):AC 293 [.nils,.v (.int .i64 n)] [] K:=by
 refine aWX rfl rfl ?_
 iterate 20 (all_goals((conv=>whnf);first|(with_reducible first|refine iF 0 0 rfl rfl zo zo ?_|refine iB n zo zo ?_|refine Ob.intro (aGS hn zd (by with_unfolding_all rfl)) ?_)|refine zG ?_|apply zA|intro h|exact zT|skip))
 ·exact hK _
 ·exact hK _
theorem c40(L:List (List Rg))(hL:L.length<1000)(hl:∀l,l∈L->l.length<1000){K:KT}(hK:K (iR L.flatten) []):AC 258 [.lst (L.map iR)] [] K:=by
 have sum_le:∀M:List (List Rg),(∀l,l∈M->l.length<1000)->M.flatten.length<=1000*M.length:=by
  intro M
  induction M with
  |nil=>intro _;simp
  |cons m M ih=>
   intro h;have h1:=h m zx;have h2:=ih fun l hl=>h l (by simp[hl]);simp only[eR,aC,aB];omega
 have next:∀{k:Nat} {l:List Rg},L[k]? =some l->(L.take (k+1)).flatten=(L.take k).flatten++l:=by
  intro k l h;rw[bE,h,eH,List.flatten_append];simp
 have bound:∀k,k<=L.length->(L.take k).flatten.length<=1000000:=by
  intro k hk;have:=sum_le (L.take k) fun l h=>hl l (cP h);rw[aV]at this;omega
 refine aWT rfl rfl ?_;(conv=>whnf)
 refine gV Nat (fun k=>⟨0,[],[(0,.lst (L.map iR)),(3,.v (.int .i64 ((L.take k).flatten.length:Int))),(9,.lst (L.map iR)),(10,.v (.int .i64 (L.map iR).length)),(11,.v (.int .i64 k))]⟩) (fun k=>k<=L.length) (fun k=>L.length-k) 0 ?_ ?_ ?_
 ·exact aK _
 ·exact⟨[],rfl,⟨rfl,rfl,rfl,rfl,rfl,trivial⟩,trivial⟩
 ·intro k hk;rcases aD k L.length with hkl|hkl
  ·obtain⟨l,hx⟩:=gex hkl;have hb:=bound k hk;have hll:=hl l (aG hx);have hn:=next hx
   have hlen:((L.take (k+1)).flatten.length:Int)=((L.take k).flatten.length:Int)+((l.map encR).length:Int):=by rw[hn,aC,aA];omega
   have hml:(l.map encR).length<1000:=by rw[aA];exact hll
   generalize (L.take k).flatten.length=n at hb hlen
   iterate 30 (all_goals((conv=>whnf);first|(with_reducible first|refine iI hkl ?_|refine iH hx ?_)|refine zG ?_|apply zA|intro h|exact zT|skip))
   refine⟨k+1,by omega,by omega,?_⟩;rw[hlen];exact⟨[],rfl,⟨rfl,rfl,rfl,rfl,rfl,trivial⟩,trivial⟩
  ·have e:L.take k=L:=aW hkl;have hb:=bound k hk;rw[e]at hb⊢;(conv=>whnf)
   refine aAw (by rw[aA];omega) ?_;(conv=>whnf)
   refine c49 L.flatten.length zo fun xs=>?_;(conv=>whnf)
   refine gV Nat (fun k=>⟨1,[(0,.arr 2 (if k=0 then xs else(L.take k).flatten.map encR))],[(6,.os 0 2 0 (L.take k).flatten.length),(25,.lst (L.map iR)),(26,.v (.int .i64 (L.map iR).length)),(27,.v (.int .i64 k))]⟩) (fun k=>k<=L.length) (fun k=>L.length-k) 0 ?_ ?_ ?_
   ·exact aK _
   ·exact⟨[(0,0)],rfl,⟨rfl,rfl,rfl,rfl,trivial⟩,⟨rfl,trivial⟩⟩
   ·intro k hk;have tk:((if k=0 then xs else(L.take k).flatten.map encR).drop 0).take (L.take k).flatten.length=(L.take k).flatten.map encR:=by
     by_cases h0:k=0
     ·subst h0;simp
     ·rw[aF h0,bP];exact aW (by rw[aA];exact aO _)
    have tl:0+(L.take k).flatten.length<=(if k=0 then xs else(L.take k).flatten.map encR).length:=by
     by_cases h0:k=0
     ·subst h0;simp
     ·rw[aF h0,aA,bM];exact aO _
    rcases aD k L.length with hkl|hkl
    ·obtain⟨l,hx⟩:=gex hkl;have hb:=bound k hk;have hll:=hl l (aG hx);have hn:=next hx
     have hlen:(L.take (k+1)).flatten.length=(L.take k).flatten.length+(l.map encR).length:=by rw[hn,aC,aA]
     have hml:(l.map encR).length<1000:=by rw[aA];exact hll
     iterate 30 (all_goals((conv=>whnf);first|(with_reducible first|refine iI hkl ?_|refine iH hx ?_|refine iE tl tk ?_)|refine zG ?_|apply zA|intro h|exact zT|skip))
     refine⟨k+1,by omega,by omega,?_⟩;rw[aF (Nat.succ_ne_zero k),hlen,hn,aQ];exact⟨[(0,1)],rfl,⟨rfl,rfl,rfl,rfl,trivial⟩,⟨rfl,trivial⟩⟩
    ·have hkL:k=L.length:=by omega
     iterate 10 (all_goals((conv=>whnf);first|(with_reducible refine iE tl tk ?_)|refine zG ?_|apply zA|intro h|exact zT|skip))
     rw[hkL,dF];exact hK
def g19:Ctx:={N:=71,plan:=p1 5 (lo 24) (p1 8 (lo 11) pn),hints:=h1 3 [.virt 5 2] hn}
abbrev aWL:=ofD g19 Tryz.func288
def g18:Ctx:={N:=10}
abbrev aWK:=ofD g18 Tryz.func186
abbrev itO(i n:Nat):Vm.Obj:=.box [.os i 7 0 n]
abbrev arI(its:List It):Vm.Obj:=.arr 7 (its.map lA)
def oS(x:It)(its:List It):Int×List It:=(0,its++[x])
theorem X4(x:It)(its:List It)(h:(oS x its).1=0):(oS x its).2.length<=its.length+1000:=by
 simp[oS]
theorem aSr(x:It)(its:List It)(hl:its.length<100000000000){K:KT}(hK:K (.v (.int .i64 (oS x its).1)) [itO 2 (oS x its).2.length,.box [],arI (oS x its).2]):
  AC 191 [lA x,.op 0 0] [itO 1 its.length,arI its] K:=by
 refine aVJ rfl rfl ?_;(repeat' ((conv=>whnf);first|refine zG ?_|apply zA|intro h|exact zT));all_goals conv=>whnf
 simp only[oS,itO,arI,aC,aQ]at hK;exact hK
abbrev fsO(l:List Df):Vm.Obj:=.box [.lst (l.map iQ),.mp 1,.mp 2,.fn (.func 191) [] [.op 3 0]]
theorem aKy(l:List Df)(hl:l.length<=999)(hit:∀d,d∈l->d.items.length<=999):∀(k:Nat) (p:List Nat) (nm:ByteArray) (d:List Nat) (rs:List It),Fine l p d->p.length+k=l.length+1->rs.length<=1000000*(d.length+p.length)->∀{K:KT},
  K (.v (.int .i64 (fol (oS) l k p nm d rs).1)) [fsO l,.map (mW l p),.map (mW l (fol (oS) l k p nm d rs).2.1),itO 5 (fol (oS) l k p nm d rs).2.2.length,.box [],arI (fol (oS) l k p nm d rs).2.2]->
  AC 259 [.op 0 0,.v (.string nm)] [fsO l,.map (mW l p),.map (mW l d),itO 4 rs.length,arI rs] K
 |0,p,nm,d,rs,hf,hk,hrs,K,hK=>by
  have:=hf.small;omega
 |k+1,p,nm,d,rs,hf,hk,hrs,K,hK=>by
  refine aQD rfl rfl ?_;have hsm:=hf.small;cases hn:lR l nm with
  |none=>
   have hix:∀{K:KT},K (.v (.int .i64 (-1))) []->AC 284 [.lst (l.map iQ),.fn (.func 294) [] [.fp [.v (.string nm)]]] [] K:=fun {K} h=>
    V3 l nm zo (by rw[mJ,hn];exact h)
   simp only[fol,hn]at hK;(repeat' ((conv=>whnf);first|(with_reducible refine hix ?_)|refine zG ?_|apply zA|intro h|exact zT));all_goals conv=>whnf
   exact hK
  |some n=>
   obtain⟨df,hdf,hname,hnl⟩:=lK hn;have hix:∀{K:KT},K (.v (.int .i64 n)) []->AC 284 [.lst (l.map iQ),.fn (.func 294) [] [.fp [.v (.string nm)]]] [] K:=fun {K} h=>
    V3 l nm zo (by rw[mJ,hn];exact h)
   by_cases hp:n∈p
   ·simp only[fol,hn,aH hp]at hK;(repeat' ((conv=>whnf);first|(with_reducible first|refine hix ?_|refine H1 (wR hn hp) ?_)|refine zG ?_|apply zA|intro h|exact zT));all_goals conv=>whnf
    exact hK
   by_cases hd:n∈d
   ·simp only[fol,hn,aF hp,aH hd]at hK;(repeat' ((conv=>whnf);first|(with_reducible first|refine hix ?_|refine xU (qE hf.pf hn hp) ?_|refine H1 (wR hn hd) ?_)|refine zG ?_|apply zA|intro h|exact zT));all_goals conv=>whnf
    exact hK
   simp only[fol,hn,aF hp,aF hd,hdf,dG,cY]at hK;(repeat' ((conv=>whnf);first|(with_reducible first|refine hix ?_|refine xU (qE hf.pf hn hp) ?_|refine xU (qE hf.df hn hd) ?_|refine iG (updM_name hn) ?_|refine iI hnl ?_|refine iH hdf ?_)|refine zG ?_|apply zA|intro h|exact zT));all_goals conv=>whnf
   have hpush:=hf.push hn hp hd;have hfed:=fun(q:Nat) nm d s h h0=>Hx (oS) List.length X4 l hit q (p++[n]) nm d s h h0;have hlen:=hit df (aG hdf);refine gV (Nat×List Nat×List It) (fun g=>⟨7,[(0,fsO l),(1,.map (mW l (p++[n]))),(2,.map (mW l g.2.1)),(3,itO 5 g.2.2.length),(5,arI g.2.2),(6,.box [.v (.string nm)])],[(0,.op 0 0),(3,.op 6 0),(49,.lst (df.items.map lA)),(50,.v (.int .i64 (df.items.map lA).length)),(51,.v (.int .i64 g.1)),(DS,.dfr 1 nm)]⟩)
    (fun g=>g.1<=df.items.length/\Fine l (p++[n]) g.2.1/\pS (oS) (fol (oS) l k (p++[n])) df.items d rs=pS (oS) (fol (oS) l k (p++[n])) (df.items.drop g.1) g.2.1 g.2.2/\d.length<=g.2.1.length/\g.2.2.length+1000000*d.length<=rs.length+1000000*g.2.1.length+1000*g.1)
    (fun g=>df.items.length-g.1) (0,d,rs) ⟨aK _,hpush,by rw[bP],aO _,by simp only;omega⟩ ?_ ?_
   ·exact leA
   rintro⟨i,d1,rs1⟩ ⟨hi,hf1,heq,hd1,hsz⟩
   simp only at hi hf1 heq hd1 hsz⊢;rcases aD i df.items.length with hil|hil
   ·obtain⟨x,hx⟩:=gex hil;have hdr:df.items.drop i=x::df.items.drop (i+1):=by
     rw[bA hil]
     congr 1
     rw[aE hil]at hx;cases hx;rfl
    rw[hdr,pC]at heq;have hsm1:=hf1.small;rw[aC,cQ]at hsm1;by_cases hk3:x.kind=3
    ·simp only[aH hk3]at heq;have hc:=fun {K} h=>@aKy l hl hit k (p++[n]) x.name d1 rs1 hf1 (by rw[aC];simp only[cQ];omega) (by rw[aC];simp only[cQ];omega) K h;have hfq:=hfed k x.name d1 rs1 hf1;generalize fol (oS) l k (p++[n]) x.name d1 rs1=q at*;obtain⟨qe,qd,qs⟩:=q;simp only at heq hc hfq;(repeat' ((conv=>whnf);first|(with_reducible first|refine iI hil ?_|refine iH hx ?_|refine hc ?_|refine iG (delM_name hf.pf hn hp) ?_)|refine zG ?_|apply zA|intro h|exact zT));all_goals conv=>whnf
     all_goals first
      |(have hne:¬qe=0:=by first|assumption|(intro e;simp_all;done)
        rw[heq,aF hne]at hK;simp only[aF hne]at hK;exact hK)
      |(have h0:qe=0:=by first|assumption|(simp_all;done)
        have hfq:=hfq h0;refine⟨(i+1,qd,qs),⟨hil,hfq.fine,by rw[heq,aH h0],by have:=hfq.le;simp only;omega,by have:=hfq.size;simp only;omega⟩,by simp only;omega,?_⟩;simp only[aN,aM];exact leA)
    ·simp only[aF hk3]at heq;have hc:=fun {K} h=>@aSr x rs1 zo K h;have hvz:=X4 x rs1;generalize oS x rs1=q at*;obtain⟨qe,qs⟩:=q;simp only at heq hc hvz;(repeat' ((conv=>whnf);first|(with_reducible first|refine iI hil ?_|refine iH hx ?_|refine hc ?_|refine iG (delM_name hf.pf hn hp) ?_)|refine zG ?_|apply zA|intro h|exact zT));all_goals conv=>whnf
     all_goals first
      |(have hne:¬qe=0:=by first|assumption|(intro e;simp_all;done)
        rw[heq,aF hne]at hK;simp only[aF hne]at hK;exact hK)
      |(have h0:qe=0:=by first|assumption|(simp_all;done)
        have hvz:=hvz h0;refine⟨(i+1,d1,qs),⟨hil,hf1,by rw[heq,aH h0],by skip;simp only;omega,by skip;simp only;omega⟩,by simp only;omega,?_⟩;simp only[aN,aM];exact leA)
   ·have hie:i=df.items.length:=by omega
    rw[hie,List.drop_length,I7]at heq;rw[heq]at hK;simp only[if_true]at hK;(repeat' ((conv=>whnf);first|(with_reducible first|refine iG (updM_name hn) ?_|refine iG (delM_name hf.pf hn hp) ?_)|refine zG ?_|apply zA|intro h|exact zT));all_goals conv=>whnf
    exact hK
end Go.Proofs.YtgicddadddhonaaGreatDoor
