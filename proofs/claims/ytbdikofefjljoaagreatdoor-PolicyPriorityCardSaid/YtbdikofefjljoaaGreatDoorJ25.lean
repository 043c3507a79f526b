/- Definitions followed: what is gathered, and which names lead to no error. Plain. -/
import Derived.Test.YtbdikofefjljoaaGreatDoorProg
import Derived.Test.YtbdikofefjljoaaGreatDoorJ24
set_option linter.unusedVariables false
set_option linter.unusedSimpArgs false
set_option maxRecDepth 100000
set_option maxHeartbeats 4000000
namespace Go.Proofs.YtbdikofefjljoaaGreatDoor
open Go Go.Vm
theorem fineNil(l:List Df):Fine l [] []:=⟨List.Pairwise.nil,List.Pairwise.nil,Firsts.nil,Firsts.nil,fun n h=>(by cases h),fun n h=>(by cases h),fun n h=>(by cases h)⟩
inductive Lead {U:Type} (l:List Df) (vis:It->U->Prop):ByteArray->U->Prop
 |here {nm:ByteArray} {n:Nat} {d:Df} {x:It} {u:U} (h1:findD l nm=some n) (h2:l[n]? =some d) (h3:x∈d.items) (h4:x.kind≠3) (h5:vis x u):Lead l vis nm u
 |there {nm:ByteArray} {n:Nat} {d:Df} {x:It} {u:U} (h1:findD l nm=some n) (h2:l[n]? =some d) (h3:x∈d.items) (h4:x.kind=3) (h5:Lead l vis x.name u):Lead l vis nm u
inductive Good (l:List Df) (ok:It->Bool):ByteArray->Prop
 |mk {nm:ByteArray} {n:Nat} {d:Df} (h1:findD l nm=some n) (h2:l[n]? =some d) (h3:∀x,x∈d.items->x.kind≠3->ok x=true) (h4:∀x,x∈d.items->x.kind=3->Good l ok x.name):Good l ok nm
inductive Need (l:List Df):Nat->Nat->Prop
 |one {n m:Nat} {d:Df} {x:It} (h1:l[n]? =some d) (h2:x∈d.items) (h3:x.kind=3) (h4:findD l x.name=some m):Need l n m
 |more {n m k:Nat} (h1:Need l n m) (h2:Need l m k):Need l n k
theorem Need.first{l:List Df}{n k:Nat}(h:Need l n k):∃d x m,l[n]? =some d/\x∈d.items/\x.kind=3/\findD l x.name=some m/\(m=k\/Need l m k):=by
 induction h with
 |one h1 h2 h3 h4=>exact⟨_,_,_,h1,h2,h3,h4,.inl rfl⟩
 |more h1 h2 ih1 ih2=>
  obtain⟨d,x,m,g1,g2,g3,g4,g5⟩:=ih1
  refine⟨d,x,m,g1,g2,g3,g4,.inr ?_⟩
  rcases g5 with rfl|g5
  ·exact h2
  ·exact .more g5 h2
section
variable {S U:Type} (v:It->S->Int×S) (mem:S->U->Prop) (vis:It->U->Prop) (ok:It->Bool)
structure Vis:Prop where
 add:∀x s,(v x s).1=0->∀u,mem (v x s).2 u↔(mem s u\/vis x u)
 ok:∀x s,(v x s).1=0↔ok x=true
structure Closed (l:List Df) (d:List Nat) (s:S):Prop where
 it:∀n,n∈d->∀df,l[n]? =some df->∀x,x∈df.items->x.kind≠3->∀u,vis x u->mem s u
 nm:∀n,n∈d->∀df,l[n]? =some df->∀x,x∈df.items->x.kind=3->∃m,m∈d/\findD l x.name=some m
 good:∀n,n∈d->∀nm,findD l nm=some n->Good l ok nm
structure Fol (l:List Df) (p:List Nat) (d:List Nat) (s:S) (d':List Nat) (s':S) (new:U->Prop):Prop where
 fine:Fine l p d'
 closed:Closed mem vis ok l d' s'
 sub:∀n,n∈d->n∈d'
 up:∀u,mem s u->mem s' u
 dn:∀u,mem s' u->mem s u\/new u
theorem lead_done{l:List Df}{d:List Nat}{s:S}(h:Closed mem vis ok l d s){nm:ByteArray}{u:U}(hl:Lead l vis nm u):∀m,m∈d->findD l nm=some m->mem s u:=by
 induction hl with
 |here h1 h2 h3 h4 h5=>
  intro m hm hf
  rw[h1]at hf;cases hf
  exact h.it _ hm _ h2 _ h3 h4 _ h5
 |there h1 h2 h3 h4 h5 ih=>
  intro m hm hf
  rw[h1]at hf;cases hf
  obtain⟨m',h6,h7⟩:=h.nm _ hm _ h2 _ h3 h4
  exact ih m' h6 h7
variable (hv:Vis v mem vis ok)
include hv
theorem folI_fol{l:List Df}{p:List Nat}{rec:ByteArray->List Nat->S->Int×List Nat×S}
  (hrec:∀nm d s,Fine l p d->Closed mem vis ok l d s->(rec nm d s).1=0->Fol mem vis ok l p d s (rec nm d s).2.1 (rec nm d s).2.2 (Lead l vis nm)/\∃m,m∈(rec nm d s).2.1/\findD l nm=some m):
  ∀(its:List It) (d:List Nat) (s:S),Fine l p d->Closed mem vis ok l d s->(folI v rec its d s).1=0->
  Fol mem vis ok l p d s (folI v rec its d s).2.1 (folI v rec its d s).2.2 (fun u=>∃x,x∈its/\((x.kind≠3/\vis x u)\/(x.kind=3/\Lead l vis x.name u)))/\
  (∀x,x∈its->x.kind≠3->ok x=true/\∀u,vis x u->mem (folI v rec its d s).2.2 u)/\∀x,x∈its->x.kind=3->∃m,m∈(folI v rec its d s).2.1/\findD l x.name=some m
 |[],d,s,hf,hc,_=>⟨⟨hf,hc,fun _ h=>h,fun _ h=>h,fun _ h=>.inl h⟩,fun x h=>(by cases h),fun x h=>(by cases h)⟩
 |x::r,d,s,hf,hc,h=>by
  rw[folI_cons]at h⊢
  have hq:(if x.kind=3 then rec x.name d s else((v x s).1,d,(v x s).2)).1=0->
    Fol mem vis ok l p d s (if x.kind=3 then rec x.name d s else((v x s).1,d,(v x s).2)).2.1 (if x.kind=3 then rec x.name d s else((v x s).1,d,(v x s).2)).2.2 (fun u=>(x.kind≠3/\vis x u)\/(x.kind=3/\Lead l vis x.name u))/\
    (x.kind≠3->ok x=true/\∀u,vis x u->mem (if x.kind=3 then rec x.name d s else((v x s).1,d,(v x s).2)).2.2 u)/\(x.kind=3->∃m,m∈(if x.kind=3 then rec x.name d s else((v x s).1,d,(v x s).2)).2.1/\findD l x.name=some m):=by
   by_cases hk:x.kind=3
   ·rw[aH hk]
    intro h0
    obtain⟨g,gm⟩:=hrec x.name d s hf hc h0
    exact⟨⟨g.fine,g.closed,g.sub,g.up,fun u hu=>(g.dn u hu).imp id fun hl=>.inr ⟨hk,hl⟩⟩,fun hn=>absurd hk hn,fun _=>gm⟩
   ·rw[aE hk]
    intro h0
    have ha:=hv.add x s h0
    exact⟨⟨hf,⟨fun n hn df hdf y hy hy3 u hu=>(ha u).2 (.inl (hc.it n hn df hdf y hy hy3 u hu)),hc.nm,hc.good⟩,fun _ h=>h,fun u hu=>(ha u).2 (.inl hu),fun u hu=>((ha u).1 hu).imp id fun hx=>.inl ⟨hk,hx⟩⟩,
     fun _=>⟨(hv.ok x s).1 h0,fun u hu=>(ha u).2 (.inr hu)⟩,fun h3=>absurd h3 hk⟩
  generalize (if x.kind=3 then rec x.name d s else((v x s).1,d,(v x s).2))=q at*
  by_cases h0:q.1=0
  ·rw[aH h0]at h⊢
   obtain⟨g,g1,g2⟩:=hq h0
   obtain⟨f,f1,f2⟩:=folI_fol hrec r q.2.1 q.2.2 g.fine g.closed h
   refine⟨⟨f.fine,f.closed,fun n hn=>f.sub n (g.sub n hn),fun u hu=>f.up u (g.up u hu),fun u hu=>?_⟩,fun y hy hy3=>?_,fun y hy hy3=>?_⟩
   ·rcases f.dn u hu with h1|⟨y,hy,h1⟩
    ·rcases g.dn u h1 with h1|h1
     ·exact .inl h1
     ·exact .inr ⟨x,by simp,h1⟩
    ·exact .inr ⟨y,aX _ hy,h1⟩
   ·rcases aS.1 hy with rfl|hy
    ·exact⟨(g1 hy3).1,fun u hu=>f.up u ((g1 hy3).2 u hu)⟩
    ·exact f1 y hy hy3
   ·rcases aS.1 hy with rfl|hy
    ·obtain⟨m,hm,hfm⟩:=g2 hy3
     exact⟨m,f.sub m hm,hfm⟩
    ·exact f2 y hy hy3
  ·rw[aE h0]at h;exact absurd h h0
theorem fol_fol(l:List Df):∀(k:Nat) (p:List Nat) (nm:ByteArray) (d:List Nat) (s:S),Fine l p d->Closed mem vis ok l d s->(fol v l k p nm d s).1=0->
  Fol mem vis ok l p d s (fol v l k p nm d s).2.1 (fol v l k p nm d s).2.2 (Lead l vis nm)/\∃m,m∈(fol v l k p nm d s).2.1/\findD l nm=some m
 |0,p,nm,d,s,hf,hc,h=>by simp[fol]at h
 |k+1,p,nm,d,s,hf,hc,h=>by
  unfold fol at h⊢
  cases hn:findD l nm with
  |none=>simp[hn]at h
  |some n=>
   simp only[hn]at h⊢
   split at h
   ·simp at h
   rename_i hp
   rw[aE hp]
   split at h
   ·rename_i hd
    rw[aH hd]
    exact⟨⟨hf,hc,fun _ h=>h,fun _ h=>h,fun _ h=>.inl h⟩,n,hd,rfl⟩
   rename_i hd
   rw[aE hd]
   obtain⟨df,hdf,hname,_⟩:=findD_some hn
   simp only[hdf,cZ,cW]at h⊢
   have hpush:=hf.push hn hp hd
   split at h
   ·rename_i h0
    rw[aH h0]
    obtain⟨g,g1,g2⟩:=folI_fol v mem vis ok hv (fun nm d s hf hc h=>fol_fol l k (p++[n]) nm d s hf hc h) df.items d s hpush hc h0
    simp only
    have hgood:Good l ok nm:=.mk hn hdf (fun x hx h3=>(g1 x hx h3).1) fun x hx h3=>by
     obtain⟨m,hm,hfm⟩:=g2 x hx h3
     exact g.closed.good m hm x.name hfm
    refine⟨⟨g.fine.pop hn,⟨fun m hm e he x hx h3 u hu=>?_,fun m hm e he x hx h3=>?_,fun m hm nm2 hf2=>?_⟩,fun m hm=>cN _ (g.sub m hm),g.up,fun u hu=>?_⟩,n,by simp,rfl⟩
    ·rcases aU.1 hm with hm|hm
     ·exact g.closed.it m hm e he x hx h3 u hu
     ·rw[aR.1 hm,hdf]at he;cases he
      exact(g1 x hx h3).2 u hu
    ·rcases aU.1 hm with hm|hm
     ·obtain⟨m2,h1,h2⟩:=g.closed.nm m hm e he x hx h3
      exact⟨m2,cN _ h1,h2⟩
     ·rw[aR.1 hm,hdf]at he;cases he
      obtain⟨m2,h1,h2⟩:=g2 x hx h3
      exact⟨m2,cN _ h1,h2⟩
    ·rcases aU.1 hm with hm|hm
     ·exact g.closed.good m hm nm2 hf2
     ·rw[aR.1 hm]at hf2
      obtain⟨df2,hdf2,hname2,_⟩:=findD_some hf2
      rw[hdf]at hdf2;cases hdf2
      rw[<-hname2,hname];exact hgood
    ·rcases g.dn u hu with h1|⟨x,hx,⟨h3,h4⟩|⟨h3,h4⟩⟩
     ·exact .inl h1
     ·exact .inr (.here hn hdf hx h3 h4)
     ·exact .inr (.there hn hdf hx h3 h4)
   ·rename_i h0;exact absurd h h0
theorem fol_lead(l:List Df)(nm:ByteArray)(s:S)(hs:∀u,¬mem s u)(h:(fol v l (l.length+1) [] nm [] s).1=0):
  Good l ok nm/\∀u,mem (fol v l (l.length+1) [] nm [] s).2.2 u↔Lead l vis nm u:=by
 obtain⟨g,m,hm,hf⟩:=fol_fol v mem vis ok hv l (l.length+1) [] nm [] s (fineNil l) ⟨fun n h=>(by cases h),fun n h=>(by cases h),fun n h=>(by cases h)⟩ h
 refine⟨g.closed.good m hm nm hf,fun u=>⟨fun hu=>?_,fun hl=>lead_done mem vis ok g.closed hl m hm hf⟩⟩
 rcases g.dn u hu with h1|h1
 ·exact absurd h1 (hs u)
 ·exact h1
end
noncomputable def gwZone1:Ctx:={N:=8}
noncomputable def bwZone1:Code:=bdy Tryz.f320
abbrev ofwZone1:=@ofC Tryz.prog gwZone1 320 Tryz.f320 bwZone1 Tryz.func320 zk zk zk zk
noncomputable def gwZone:Ctx:={N:=8}
noncomputable def bwZone:Code:=bdy Tryz.f265
abbrev ofwZone:=@ofC Tryz.prog gwZone 265 Tryz.f265 bwZone Tryz.func265 zk zk zk zk
noncomputable def gwIdx:Ctx:={N:=25,hints:=at1 2 ([.virt 5 1]) (fun _=>[])}
noncomputable def bwIdx:Code:=bdy Tryz.f319
abbrev ofwIdx:=@ofC Tryz.prog gwIdx 319 Tryz.f319 bwIdx Tryz.func319 zk zk zk zk
noncomputable def gwIxD:Ctx:={N:=19}
noncomputable def bwIxD:Code:=bdy Tryz.f293
abbrev ofwIxD:=@ofC Tryz.prog gwIxD 293 Tryz.f293 bwIxD Tryz.func293 zk zk zk zk
noncomputable def gwFol1:Ctx:={N:=8}
noncomputable def bwFol1:Code:=bdy Tryz.f335
abbrev ofwFol1:=@ofC Tryz.prog gwFol1 335 Tryz.f335 bwFol1 Tryz.func335 zk zk zk zk
noncomputable def gwG1:Ctx:={N:=14,np:=2,out:=true}
noncomputable def bwG1:Code:=bdy Tryz.f262
abbrev ofwG1:=@ofC Tryz.prog gwG1 262 Tryz.f262 bwG1 Tryz.func262 zk zk zk zk
noncomputable def gwG2:Ctx:={N:=37,np:=4,own:=at1 262 (true) (fun _=>false),plan:=at1 10 (some (ln [1,3,5,7,9,11,13,14])) (fun _=>none),hints:=at1 0 ([.renewI 2 0]) (fun _=>[]),out:=true}
noncomputable def bwG2:Code:=bdy Tryz.f264
abbrev ofwG2:=@ofC Tryz.prog gwG2 264 Tryz.f264 bwG2 Tryz.func264 zk zk zk zk
noncomputable def gwFol:Ctx:={N:=77,np:=7,own:=at1 318 (true) (at1 264 (true) (fun _=>false)),plan:=at1 4 (some (ln [1,3,5,7,9,10,13])) (at1 6 (some (ln [1,3,5,7,9,10,13])) (at1 8 (some (ln [1,3,5,7,9,10])) (at1 9 (some (ln [1,3,5,7,9,10])) (at1 16 (some (ln [1,3,5,7,9,10,13])) (at1 20 (some (ln [1,3,5,7,9,10])) (fun _=>none)))))),hints:=at1 0 ([.renewI 5 0]) (fun _=>[]),out:=true,lend:=at1 293 (true) (fun _=>false)}
noncomputable def bwFol:Code:=bdy Tryz.f318
abbrev ofwFol:=@ofC Tryz.prog gwFol 318 Tryz.f318 bwFol Tryz.func318 zk zk zk zk
noncomputable def gwStart:Ctx:={N:=15,np:=4,own:=at1 318 (true) (fun _=>false),out:=true}
noncomputable def bwStart:Code:=bdy Tryz.f263
abbrev ofwStart:=@ofC Tryz.prog gwStart 263 Tryz.f263 bwStart Tryz.func263 zk zk zk zk
noncomputable def gwGrp:Ctx:={N:=40,own:=at1 263 (true) (at1 262 (true) (fun _=>false)),hints:=at1 2 ([.virtB 8 0 2]) (fun _=>[])}
noncomputable def bwGrp:Code:=bdy Tryz.f193
abbrev ofwGrp:=@ofC Tryz.prog gwGrp 193 Tryz.f193 bwGrp Tryz.func193 zk zk zk zk
noncomputable def gwS1:Ctx:={N:=8,np:=2,out:=true}
noncomputable def bwS1:Code:=bdy Tryz.f266
abbrev ofwS1:=@ofC Tryz.prog gwS1 266 Tryz.f266 bwS1 Tryz.func266 zk zk zk zk
noncomputable def gwFos:Ctx:={N:=77,np:=5,own:=at1 318 (true) (at1 266 (true) (fun _=>false)),plan:=at1 4 (some (ln [1,3,5,7,9,10,13])) (at1 6 (some (ln [1,3,5,7,9,10,13])) (at1 8 (some (ln [1,3,5,7,9,10])) (at1 9 (some (ln [1,3,5,7,9,10])) (at1 16 (some (ln [1,3,5,7,9,10,13])) (at1 20 (some (ln [1,3,5,7,9,10])) (fun _=>none)))))),hints:=at1 0 ([.renewI 3 0]) (fun _=>[]),out:=true,lend:=at1 293 (true) (fun _=>false)}
noncomputable def bwFos:Code:=bdy Tryz.f318
abbrev ofwFos:=@ofC Tryz.prog gwFos 318 Tryz.f318 bwFos Tryz.func318 zk zk zk zk
noncomputable def gwStS:Ctx:={N:=15,np:=2,own:=at1 318 (true) (fun _=>false),out:=true}
noncomputable def bwStS:Code:=bdy Tryz.f263
abbrev ofwStS:=@ofC Tryz.prog gwStS 263 Tryz.f263 bwStS Tryz.func263 zk zk zk zk
noncomputable def gwSvc:Ctx:={N:=64,own:=at1 263 (true) (fun _=>false),plan:=at1 14 (some (.one 1 true (.alt 0 (ln [4,6,9,11,13,15,17]) (.alt 2 (ln [0,6,9,11,13,15,17]) (.stop))))) (fun _=>none),hints:=at1 4 ([.virtB 6 0 7]) (at1 8 ([.freezeB 6,.asL 8]) (fun _=>[]))}
noncomputable def bwSvc:Code:=bdy Tryz.f194
abbrev ofwSvc:=@ofC Tryz.prog gwSvc 194 Tryz.f194 bwSvc Tryz.func194 zk zk zk zk
theorem cwFol1(d:Df)(s:ByteArray){K:KT}(hK:K (.sb (sEq d.name s)) []):AC 335 [encDf d,.fp [.v (.string s)]] [] K:=by
 refine ofwFol1 rfl rfl ?_
 (repeat' ((conv=>whnf);first|refine zG ?_|apply zA|intro h|exact zT));all_goals conv=>whnf
 exact hK
theorem cwIxD(l:List Df)(s:ByteArray)(hl:l.length<1000000){K:KT}(hK:K (.v (.int .i64 (firstIx (fun d=>sEq d.name s) l))) []):
  AC 293 [.lst (l.map encDf),.fn (.func 335) [] [.fp [.v (.string s)]]] [] K:=by
 refine ofwIxD rfl rfl ?_
 (repeat' ((conv=>whnf);first|refine zG ?_|apply zA|intro h|exact zT));all_goals conv=>whnf
 refine gL Nat (fun k=>⟨0,[],[(0,.lst (l.map encDf)),(1,.fn (.func 335) [] [.fp [.v (.string s)]]),(7,.v (.int .i64 (l.map encDf).length)),(8,.v (.int .i64 k))]⟩) (fun k=>k<=l.length/\∀(i:Nat) y,i<k->l[i]? =some y->sEq y.name s=false) (fun k=>l.length-k) 0 ⟨aL _,fun i y hi=>absurd hi (aY _)⟩ ?_ ?_
 ·(exact leA)
 intro k ⟨hk,hinv⟩
 rcases aD k l.length with hkl|hkl
 ·obtain⟨r,hr⟩:=gex hkl
  (repeat' ((conv=>whnf);first|(with_reducible first|refine hJ hkl ?_|refine gZ hr ?_|refine cwFol1 r s ?_)|refine zG ?_|apply zA|intro h|exact zT));all_goals conv=>whnf
  ·rw[firstIx_at hr h hinv]at hK;exact hK
  ·refine⟨k+1,⟨by omega,before_succ hr h hinv⟩,by omega,?_⟩
   rw[aO,aN]
   (exact leA)
 ·(repeat' ((conv=>whnf);first|refine zG ?_|apply zA|intro h|exact zT));all_goals conv=>whnf
  rw[firstIx_none (iB hkl hinv)]at hK
  exact hK
def ixs(p:Ed->Bool)(l:List Ed)(k:Nat):List Nat:=(List.range k).filter fun i=>match l[i]? with
 |some e=>p e
 |none=>false
theorem ixs_succ(p:Ed->Bool){l:List Ed}{k:Nat}{e:Ed}(h:l[k]? =some e):ixs p l (k+1)=ixs p l k++if p e=true then [k]else []:=by
 rw[ixs,fK,dB,<-ixs]
 congr 1
 rw[eD,List.filter_nil]
 simp only[h]
theorem ixs_len(p:Ed->Bool)(l:List Ed)(k:Nat):(ixs p l k).length<=k:=by
 have:=dQ (fun i=>match l[i]? with
  |some e=>p e
  |none=>false) (List.range k)
 rw[fO]at this
 exact this
theorem ixs_lt{p:Ed->Bool}{l:List Ed}{k n:Nat}(h:n∈ixs p l k):n<k/\∃e,l[n]? =some e/\p e=true:=by
 rw[ixs,bX,dK]at h
 refine⟨h.1,?_⟩
 cases he:l[n]? with
 |none=>simp[he]at h
 |some e=>exact⟨e,rfl,by simpa[he]using h.2⟩
theorem cwZone1(e:Ed)(s:ByteArray){K:KT}(hK:K (.sb (sEq e.zone s)) []):AC 320 [encE e,.fp [.v (.string s)]] [] K:=by
 refine ofwZone1 rfl rfl ?_
 (repeat' ((conv=>whnf);first|refine zG ?_|apply zA|intro h|exact zT));all_goals conv=>whnf
 exact hK
theorem cwIdx(t:Tp)(s:ByteArray)(hl:t.edges.length<1000){K:KT}(hK:K (.lst ((ixs (fun e=>sEq e.zone s) t.edges t.edges.length).map vN)) []):
  AC 319 [encT t,.fn (.func 320) [] [.fp [.v (.string s)]]] [] K:=by
 refine ofwIdx rfl rfl ?_
 (repeat' ((conv=>whnf);first|refine zG ?_|apply zA|intro h|exact zT));all_goals conv=>whnf
 refine gL (Nat×List Nat) (fun g=>⟨2,[(1,.arr 1 (g.2.map vN))],[(1,.fn (.func 320) [] [.fp [.v (.string s)]]),(5,.os 1 1 0 g.2.length),(9,.lst (t.edges.map encE)),(10,.v (.int .i64 (t.edges.map encE).length)),(11,.v (.int .i64 g.1))]⟩)
  (fun g=>g.1<=t.edges.length/\g.2=ixs (fun e=>sEq e.zone s) t.edges g.1) (fun g=>t.edges.length-g.1) (0,[]) ⟨aL _,rfl⟩ ?_ ?_
 ·(exact leA)
 rintro⟨k,out⟩ ⟨hk,ho⟩
 simp only at hk ho⊢
 have hol:out.length<=k:=by rw[ho];exact ixs_len _ _ _
 rcases aD k t.edges.length with hkl|hkl
 ·obtain⟨e,he⟩:=gex hkl
  have hs:=ixs_succ (fun e=>sEq e.zone s) he
  rw[<-ho]at hs
  (repeat' ((conv=>whnf);first|(with_reducible first|refine hJ hkl ?_|refine gZ he ?_|refine cwZone1 e s ?_)|refine zG ?_|apply zA|intro h|exact zT));all_goals conv=>whnf
  ·refine⟨(k+1,out++[k]),⟨hkl,by rw[hs,aH h]⟩,by simp only;omega,?_⟩
   simp only[aQ,aC,aW,bN,aK,aP,aO,aN]
   (exact leA)
  ·refine⟨(k+1,out),⟨hkl,by rw[hs,aE (by simp[h]),bJ]⟩,by simp only;omega,?_⟩
   simp only[aO,aN]
   (exact leA)
 ·obtain rfl:k=t.edges.length:=by omega
  rw[<-ho]at hK
  (repeat' ((conv=>whnf);first|(with_reducible refine sl_full (aA ..) ?_)|refine zG ?_|apply zA|intro h|exact zT));all_goals conv=>whnf
  exact hK
theorem cwZone(t:Tp)(s:ByteArray)(hl:t.edges.length<1000){K:KT}(hK:K (.lst ((ixs (fun e=>sEq e.zone s) t.edges t.edges.length).map vN)) []):AC 265 [encT t,.v (.string s)] [] K:=by
 refine ofwZone rfl rfl ?_
 (repeat' ((conv=>whnf);first|(with_reducible refine cwIdx t s hl ?_)|refine zG ?_|apply zA|intro h|exact zT));all_goals conv=>whnf
 exact hK
abbrev outO(i n:Nat):Vm.Obj:=.box [.os i 2 0 n]
noncomputable abbrev arrO(rs:List Rg):Vm.Obj:=.arr 2 (rs.map encR)
theorem cwAdd(p:Pf)(rs:List Rg)(hl:rs.length<1000000000000){K:KT}(hK:K (.tup []) [outO 2 (rs++[p.rg]).length,.box [],arrO (rs++[p.rg])]):
  AC 262 [encP p,.op 0 0] [outO 1 rs.length,arrO rs] K:=by
 refine ofwG1 rfl rfl ?_
 (repeat' ((conv=>whnf);first|(with_reducible refine cpOf p ?_)|refine zG ?_|apply zA|intro h|exact zT));all_goals conv=>whnf
 simp only[outO,arrO,aC,aQ]at hK
 exact hK
def rgAt(t:Tp)(i:Nat):Rg:=match t.edges[i]? with
 |some e=>e.pf.rg
 |none=>⟨0,0,by decide,by decide,by decide,by decide⟩
def visG(t:Tp)(x:It)(rs:List Rg):Int×List Rg:=
 if x.kind=2 then(0,rs++[x.pf.rg])else if ixs (fun e=>sEq e.zone x.name) t.edges t.edges.length=[]then(5,rs)else(0,rs++(ixs (fun e=>sEq e.zone x.name) t.edges t.edges.length).map (rgAt t))
noncomputable abbrev adO(i:Nat):Vm.Obj:=.box [.fn (.func 262) [] [.op i 0]]
theorem cwVis(t:Tp)(x:It)(rs:List Rg)(hl:t.edges.length<1000)(hr:rs.length<100000000000){K:KT}(hK:K (.v (.int .i64 (visG t x rs).1)) [adO 2,boxT t,outO 4 (visG t x rs).2.length,.box [],arrO (visG t x rs).2]):
  AC 264 [encIt x,.op 0 0,.op 1 0] [adO 2,boxT t,outO 3 rs.length,arrO rs] K:=by
 refine ofwG2 rfl rfl ?_
 (repeat' ((conv=>whnf);first|(with_reducible first|refine cwAdd x.pf rs zo ?_|refine cwZone t x.name hl ?_)|refine zG ?_|apply zA|intro h|exact zT));all_goals conv=>whnf
 ·rw[visG,aH h]at hK
  exact hK
 ·have h0:ixs (fun e=>sEq e.zone x.name) t.edges t.edges.length=[]:=cE.1 (by rw[aA]at h;omega)
  rw[visG,aE zp,aH h0]at hK
  exact hK
 have hne:ixs (fun e=>sEq e.zone x.name) t.edges t.edges.length≠[]:=fun e=>h (by rw[e];rfl)
 rw[visG,aE zp,aE hne]at hK
 have hlt:=fun n hn=>@ixs_lt (fun e=>sEq e.zone x.name) t.edges t.edges.length n hn
 have hll:=ixs_len (fun e=>sEq e.zone x.name) t.edges t.edges.length
 generalize ixs (fun e=>sEq e.zone x.name) t.edges t.edges.length=L at*
 refine gL (Nat×List Rg) (fun g=>⟨5,[(0,adO 2),(1,boxT t),(2,outO 4 g.2.length),(4,arrO g.2)],[(1,.op 0 0),(2,.op 1 0),(22,.lst (L.map vN)),(23,.v (.int .i64 (L.map vN).length)),(24,.v (.int .i64 g.1))]⟩)
  (fun g=>g.1<=L.length/\g.2=rs++(L.take g.1).map (rgAt t)) (fun g=>L.length-g.1) (0,rs) ⟨aL _,by simp⟩ ?_ ?_
 ·(exact leA)
 rintro⟨k,out⟩ ⟨hk,ho⟩
 simp only at hk ho⊢
 have hol:out.length=rs.length+k:=by rw[ho,aC,aA,bG];omega
 rcases aD k L.length with hkl|hkl
 ·obtain⟨n,hn⟩:=gex hkl
  obtain⟨hnl,e,he,_⟩:=hlt n (aG hn)
  have hrg:rgAt t n=e.pf.rg:=by rw[rgAt,he]
  (repeat' ((conv=>whnf);first|(with_reducible first|refine hJ hkl ?_|refine gZ hn ?_|refine hJ hnl ?_|refine gZ he ?_|refine cwAdd e.pf out zo ?_)|refine zG ?_|apply zA|intro h|exact zT));all_goals conv=>whnf
  refine⟨(k+1,out++[e.pf.rg]),⟨hkl,?_⟩,by simp only;omega,?_⟩
  ·simp only
   rw[ho,bH,hn,aQ,dL]
   simp[hrg]
  ·simp only[aO,aN]
   (exact leA)
 ·have hke:k=L.length:=by omega
  rw[hke,cY]at ho
  rw[<-ho]at hK
  (repeat' ((conv=>whnf);first|refine zG ?_|apply zA|intro h|exact zT));all_goals conv=>whnf
  exact hK
noncomputable abbrev foO(l:List Df):Vm.Obj:=.box [.lst (l.map encDf),.mp 1,.mp 2,.fn (.func 264) [] [.op 3 0,.op 4 0]]
theorem visG_sz{t:Tp}(ht:t.edges.length<1000)(x:It)(rs:List Rg)(h:(visG t x rs).1=0):(visG t x rs).2.length<=rs.length+1000:=by
 unfold visG at h⊢
 have hll:=ixs_len (fun e=>sEq e.zone x.name) t.edges t.edges.length
 split
 ·rw[aC];simp
 ·split
  ·simp
  ·rw[aC,aA];omega
theorem cwFol(t:Tp)(ht:t.edges.length<1000)(l:List Df)(hl:l.length<=999)(hit:∀d,d∈l->d.items.length<=999):∀(k:Nat) (p:List Nat) (nm:ByteArray) (d:List Nat) (rs:List Rg),Fine l p d->p.length+k=l.length+1->rs.length<=1000000*(d.length+p.length)->∀{K:KT},
  K (.v (.int .i64 (fol (visG t) l k p nm d rs).1)) [foO l,.map (nameM l p),.map (nameM l (fol (visG t) l k p nm d rs).2.1),adO 5,boxT t,outO 7 (fol (visG t) l k p nm d rs).2.2.length,.box [],arrO (fol (visG t) l k p nm d rs).2.2]->
  AC 318 [.op 0 0,.v (.string nm)] [foO l,.map (nameM l p),.map (nameM l d),adO 5,boxT t,outO 6 rs.length,arrO rs] K
 |0,p,nm,d,rs,hf,hk,hrs,K,hK=>by
  have:=hf.small
  omega
 |k+1,p,nm,d,rs,hf,hk,hrs,K,hK=>by
  refine ofwFol rfl rfl ?_
  have hsm:=hf.small
  cases hn:findD l nm with
  |none=>
   have hix:∀{K:KT},K (.v (.int .i64 (-1))) []->AC 293 [.lst (l.map encDf),.fn (.func 335) [] [.fp [.v (.string nm)]]] [] K:=fun {K} h=>
    cwIxD l nm zo (by rw[firstIx_find,hn];exact h)
   simp only[fol,hn]at hK
   (repeat' ((conv=>whnf);first|(with_reducible refine hix ?_)|refine zG ?_|apply zA|intro h|exact zT));all_goals conv=>whnf
   exact hK
  |some n=>
   obtain⟨df,hdf,hname,hnl⟩:=findD_some hn
   have hix:∀{K:KT},K (.v (.int .i64 n)) []->AC 293 [.lst (l.map encDf),.fn (.func 335) [] [.fp [.v (.string nm)]]] [] K:=fun {K} h=>
    cwIxD l nm zo (by rw[firstIx_find,hn];exact h)
   by_cases hp:n∈p
   ·simp only[fol,hn,aH hp]at hK
    (repeat' ((conv=>whnf);first|(with_reducible first|refine hix ?_|refine mg_some (nameM_in hn hp) ?_)|refine zG ?_|apply zA|intro h|exact zT));all_goals conv=>whnf
    exact hK
   by_cases hd:n∈d
   ·simp only[fol,hn,aE hp,aH hd]at hK
    (repeat' ((conv=>whnf);first|(with_reducible first|refine hix ?_|refine mg_none (nameM_out hf.pf hn hp) ?_|refine mg_some (nameM_in hn hd) ?_)|refine zG ?_|apply zA|intro h|exact zT));all_goals conv=>whnf
    exact hK
   simp only[fol,hn,aE hp,aE hd,hdf,cZ,cW]at hK
   (repeat' ((conv=>whnf);first|(with_reducible first|refine hix ?_|refine mg_none (nameM_out hf.pf hn hp) ?_|refine mg_none (nameM_out hf.df hn hd) ?_|refine gY (updM_name hn) ?_|refine hJ hnl ?_|refine gZ hdf ?_)|refine zG ?_|apply zA|intro h|exact zT));all_goals conv=>whnf
   have hpush:=hf.push hn hp hd
   have hfed:=fun(q:Nat) nm d s h h0=>fol_fed (visG t) List.length (visG_sz ht) l hit q (p++[n]) nm d s h h0
   have hlen:=hit df (aG hdf)
   refine gL (Nat×List Nat×List Rg) (fun g=>⟨9,[(0,foO l),(1,.map (nameM l (p++[n]))),(2,.map (nameM l g.2.1)),(3,adO 5),(4,boxT t),(5,outO 7 g.2.2.length),(7,arrO g.2.2),(8,.box [.v (.string nm)])],[(0,.op 0 0),(3,.op 8 0),(49,.lst (df.items.map encIt)),(50,.v (.int .i64 (df.items.map encIt).length)),(51,.v (.int .i64 g.1)),(DS,.dfr 1 nm)]⟩)
    (fun g=>g.1<=df.items.length/\Fine l (p++[n]) g.2.1/\folI (visG t) (fol (visG t) l k (p++[n])) df.items d rs=folI (visG t) (fol (visG t) l k (p++[n])) (df.items.drop g.1) g.2.1 g.2.2/\d.length<=g.2.1.length/\g.2.2.length+1000000*d.length<=rs.length+1000000*g.2.1.length+1000*g.1)
    (fun g=>df.items.length-g.1) (0,d,rs) ⟨aL _,hpush,by rw[cA],aJ _,by simp only;omega⟩ ?_ ?_
   ·(exact leA)
   rintro⟨i,d1,rs1⟩ ⟨hi,hf1,heq,hd1,hsz⟩
   simp only at hi hf1 heq hd1 hsz⊢
   rcases aD i df.items.length with hil|hil
   ·obtain⟨x,hx⟩:=gex hil
    have hdr:df.items.drop i=x::df.items.drop (i+1):=by
     rw[aZ hil]
     congr 1
     rw[aB hil]at hx;cases hx;rfl
    rw[hdr,folI_cons]at heq
    have hsm1:=hf1.small
    rw[aC,bZ]at hsm1
    by_cases hk3:x.kind=3
    ·simp only[aH hk3]at heq
     have hc:=fun {K} h=>@cwFol t ht l hl hit k (p++[n]) x.name d1 rs1 hf1 (by rw[aC];simp only[bZ];omega) (by rw[aC];simp only[bZ];omega) K h
     have hfq:=hfed k x.name d1 rs1 hf1
     generalize fol (visG t) l k (p++[n]) x.name d1 rs1=q at*
     obtain⟨qe,qd,qs⟩:=q
     simp only at heq hc hfq
     (repeat' ((conv=>whnf);first|(with_reducible first|refine hJ hil ?_|refine gZ hx ?_|refine hc ?_|refine gY (delM_name hf.pf hn hp) ?_)|refine zG ?_|apply zA|intro h|exact zT));all_goals conv=>whnf
     all_goals first
      |(have hne:¬qe=0:=by first|assumption|(intro e;simp_all;done)
        rw[heq,aE hne]at hK
        simp only[aE hne]at hK
        exact hK)
      |(have h0:qe=0:=by first|assumption|(simp_all;done)
        have hfq:=hfq h0
        refine⟨(i+1,qd,qs),⟨hil,hfq.fine,by rw[heq,aH h0],by have:=hfq.le;simp only;omega,by have:=hfq.size;simp only;omega⟩,by simp only;omega,?_⟩
        simp only[aO,aN]
        (exact leA)
        done)
    ·simp only[aE hk3]at heq
     have hc:=fun {K} h=>@cwVis t x rs1 ht zo K h
     have hvz:=visG_sz ht x rs1
     generalize visG t x rs1=q at*
     obtain⟨qe,qs⟩:=q
     simp only at heq hc hvz
     (repeat' ((conv=>whnf);first|(with_reducible first|refine hJ hil ?_|refine gZ hx ?_|refine hc ?_|refine gY (delM_name hf.pf hn hp) ?_)|refine zG ?_|apply zA|intro h|exact zT));all_goals conv=>whnf
     all_goals first
      |(have hne:¬qe=0:=by first|assumption|(intro e;simp_all;done)
        rw[heq,aE hne]at hK
        simp only[aE hne]at hK
        exact hK)
      |(have h0:qe=0:=by first|assumption|(simp_all;done)
        have hvz:=hvz h0
        refine⟨(i+1,d1,qs),⟨hil,hf1,by rw[heq,aH h0],by skip;simp only;omega,by skip;simp only;omega⟩,by simp only;omega,?_⟩
        simp only[aO,aN]
        (exact leA)
        done)
   ·have hie:i=df.items.length:=by omega
    rw[hie,List.drop_length,folI_nil]at heq
    rw[heq]at hK
    simp only[if_true]at hK
    (repeat' ((conv=>whnf);first|(with_reducible first|refine gY (updM_name hn) ?_|refine gY (delM_name hf.pf hn hp) ?_)|refine zG ?_|apply zA|intro h|exact zT));all_goals conv=>whnf
    exact hK
noncomputable def g21:Ctx:={N:=8}
noncomputable def b21:Code:=bdy Tryz.f253
abbrev of21:=@ofC Tryz.prog g21 253 Tryz.f253 b21 Tryz.func253 zk zk zk zk
noncomputable def g41:Ctx:={N:=9}
noncomputable def b41:Code:=bdy Tryz.f299
abbrev of41:=@ofC Tryz.prog g41 299 Tryz.f299 b41 Tryz.func299 zk zk zk zk
noncomputable def g42:Ctx:={N:=14}
noncomputable def b42:Code:=bdy Tryz.f300
abbrev of42:=@ofC Tryz.prog g42 300 Tryz.f300 b42 Tryz.func300 zk zk zk zk
noncomputable def g50:Ctx:={N:=19}
noncomputable def b50:Code:=bdy Tryz.f327
abbrev of50:=@ofC Tryz.prog g50 327 Tryz.f327 b50 Tryz.func327 zk zk zk zk
noncomputable def g47:Ctx:={N:=10}
noncomputable def b47:Code:=bdy Tryz.f303
abbrev of47:=@ofC Tryz.prog g47 303 Tryz.f303 b47 Tryz.func303 zk zk zk zk
noncomputable def g48:Ctx:={N:=20}
noncomputable def b48:Code:=bdy Tryz.f304
abbrev of48:=@ofC Tryz.prog g48 304 Tryz.f304 b48 Tryz.func304 zk zk zk zk
noncomputable def g54:Ctx:={N:=6}
noncomputable def b54:Code:=bdy Tryz.f330
abbrev of54:=@ofC Tryz.prog g54 330 Tryz.f330 b54 Tryz.func330 zk zk zk zk
theorem c42(lo hi v:Int){K:KT}(hK:K (.sb (decide (lo<=v)&&decide (v<=hi))) []):
  AC 300 [.agg [.v (.int .u32 lo),.v (.int .u32 hi)],.fp [.v (.int .u32 v)]] [] K:=by
 refine gO (of42 rfl rfl ?_)
 iterate 12 (all_goals((conv=>whnf);first|refine zG ?_|apply zA|intro h|exact zT|skip))
 ·refine .inr ⟨_,rfl,?_⟩
  have h:lo<=v:=by assumption
  rw[decide_eq_true h,eF]at hK
  exact hK
 ·refine .inl ⟨_,rfl,?_⟩
  have h:¬lo<=v:=by assumption
  rw[decide_eq_false h,fD]at hK
  exact hK
theorem c50(l:List Rg)(v:Int)(hl:l.length<1000000){K:KT}(hK:∀z:Int,(0<=z↔has l v=true)->K (.v (.int .i64 z)) []):
  AC 327 [encRs l,.fn (.func 300) [] [.fp [.v (.int .u32 v)]]] [] K:=by
 refine of50 rfl rfl ?_
 (conv=>whnf)
 refine gL Nat (fun k=>⟨0,[],[(0,encRs l),(1,.fn (.func 300) [] [.fp [.v (.int .u32 v)]]),(7,.v (.int .i64 (l.map encR).length)),(8,.v (.int .i64 k))]⟩) (fun k=>k<=l.length/\has (l.take k) v=false) (fun k=>l.length-k) 0 ?_ ?_ ?_
 ·exact⟨aL _,rfl⟩
 ·exact⟨[],rfl,⟨rfl,rfl,rfl,rfl,trivial⟩,trivial⟩
 ·intro k ⟨hk,hinv⟩
  rcases aD k l.length with hkl|hkl
  ·obtain⟨r,hr⟩:=gex hkl
   iterate 6 (all_goals((conv=>whnf);first|(with_reducible first|refine hJ hkl ?_|refine gZ hr ?_)|refine zG ?_|apply zA|intro h|exact zT|skip))
   refine c42 r.lo r.hi v ?_
   have hs:=has_succ (v:=v) hr
   rw[hinv,fM]at hs
   generalize hb:(decide (r.lo<=v)&&decide (v<=r.hi))=b at hs⊢
   (conv=>whnf)
   refine br_b (fun h=>?_) (fun h=>?_)
   ·(conv=>whnf)
    refine hK k (iff_of_true zo ?_)
    subst h
    simp only[aF,aI]at hb
    exact has_mem hr hb.1 hb.2
   ·iterate 6 (all_goals((conv=>whnf);first|refine zG ?_|apply zA|intro h|exact zT|skip))
    exact⟨k+1,⟨by omega,by rw[hs,h]⟩,by omega,⟨[],rfl,⟨rfl,rfl,rfl,rfl,trivial⟩,trivial⟩⟩
  ·iterate 6 (all_goals((conv=>whnf);first|refine zG ?_|apply zA|intro h|exact zT|skip))
   refine hK (-1) (iff_of_false zo ?_)
   rw[bA hkl]at hinv
   rw[hinv];simp
theorem c41(l:List Rg)(v:Int)(hl:l.length<1000000){K:KT}(hK:K (.sb (has l v)) []):
  AC 299 [encRs l,.fn (.func 300) [] [.fp [.v (.int .u32 v)]]] [] K:=by
 refine gO (of41 rfl rfl ?_)
 (conv=>whnf)
 refine c50 l v hl fun z hz=>?_
 (conv=>whnf)
 refine .inr ⟨_,rfl,?_⟩
 have e:decide (0<=z)=has l v:=by rw[bD,aI];exact hz
 rw[e];exact hK
theorem c21(l:List Rg)(v:Int)(hl:l.length<1000000){K:KT}(hK:K (.sb (has l v)) []):
  AC 253 [encRs l,.v (.int .u32 v)] [] K:=by
 refine of21 rfl rfl ?_
 (conv=>whnf)
 refine c41 l v hl ?_
 (conv=>whnf)
 exact hK
theorem c54(x:Int){K:KT}(hK:K (.sb false) []):AC 330 [.v (.int .u32 x)] [] K:=by
 refine of54 rfl rfl ?_
 iterate 4 (all_goals((conv=>whnf);first|refine zG ?_|apply zA|intro h|exact zT|skip))
 have e:(!decide (x=x))=false:=by simp
 unfold one?
 rw[e]
 exact hK
noncomputable def g39:Ctx:={N:=72,own:=at1 302 (true) (fun _=>false),plan:=at1 13 (some (ln [1,3,5,7,9,11,13,15,17,19,21,23,25,27,29,31])) (at1 14 (some (ln [1,3,5,7,9,11,13,15,17,19,21,23,25,27,28])) (fun _=>none)),hints:=at1 2 ([.virt 3 2,.virt 4 2]) (fun _=>[])}
noncomputable def b39:Code:=bdy Tryz.f257
abbrev of39:=@ofC Tryz.prog g39 257 Tryz.f257 b39 Tryz.func257 zk zk zk zk
def Sorts:Prop:=∀(d:List Rg) (n:Nat),n=d.length->d.length<1000000->∀K:AV->List Vm.Obj->Prop,(∀d':List Rg,d'.Perm d->d'.Pairwise (fun r s=>r.lo<=s.lo)->K (.tup []) [.arr 2 (d'.map encR)])->
 AC 302 [.os 0 2 0 n,.fn (.func 303) [] []] [.arr 2 (d.map encR)] K
def mergeS(out:List Rg)(r:Rg):List Rg:=
 match out.getLast? with
 |some p=>if r.lo<=p.hi+1 then out.dropLast++[mkR p.lo (max p.hi r.hi)]else out++[r]
 |none=>[r]
theorem mergeS_length(out:List Rg)(r:Rg):(mergeS out r).length<=out.length+1:=by
 unfold mergeS
 split
 ·split<;>simp
 ·simp
theorem mergeS_inv{out:List Rg}{r:Rg}(hc:Canon out)(hlo:∀p,p∈out->p.lo<=r.lo)(hr:r.lo<=r.hi):Canon (mergeS out r)/\(∀v,has (mergeS out r) v=(has out v||has [r] v))/\∀p,p∈mergeS out r->p.lo<=r.lo:=by
 have b1:=r.l0;have b2:=r.l1;have b3:=r.h0;have b4:=r.h1
 unfold mergeS
 rcases cT out with hnil|⟨ini,p,hcat⟩
 ·subst hnil
  refine⟨?_,fun v=>by simp[has],fun p hp=>by simp at hp;subst hp;exact cD _⟩
  have:=canon_append_one canon_nil hr (fun s hs=>by simp at hs)
  simpa using this
 ·rw[cU]at hcat
  subst hcat
  simp only[cP,cJ,dP,dD]
  have p1:=p.l0;have p2:=p.l1;have p3:=p.h0;have p4:=p.h1
  have hpw:=dE.1 hc.2
  have hp1:=hc.1 p zx
  have hp2:=hlo p zx
  have hx:0<=max p.hi r.hi/\max p.hi r.hi<=4294967295:=by omega
  split
  ·rename_i he
   have ci:Canon ini:=⟨fun t ht=>hc.1 t (by simp[ht]),hpw.1⟩
   refine⟨canon_append_one ci (by rw[mkR_lo p1 p2 hx.1 hx.2,mkR_hi p1 p2 hx.1 hx.2];omega) (fun s hs=>by rw[mkR_lo p1 p2 hx.1 hx.2];exact hpw.2.2 s hs p zx),fun v=>?_,fun q hq=>?_⟩
   ·rw[has_append,has_append,has_one,has_one,has_one,mkR_lo p1 p2 hx.1 hx.2,mkR_hi p1 p2 hx.1 hx.2,Bool.or_assoc]
    congr 1
    rw[bD]
    simp only[bS,aF,aI]
    omega
   ·rcases aU.1 hq with hq|hq
    ·exact hlo q (by simp[hq])
    ·simp at hq;subst hq;rw[mkR_lo p1 p2 hx.1 hx.2];exact hp2
  ·rename_i he
   refine⟨canon_append_one hc hr (fun s hs=>?_),fun v=>has_append _ _ v,fun q hq=>?_⟩
   ·rcases aU.1 hs with hs|hs
    ·have:=hpw.2.2 s hs p zx;omega
    ·simp at hs;subst hs;omega
   ·rcases aU.1 hq with hq|hq
    ·exact hlo q hq
    ·simp at hq;subst hq;exact cD _
theorem fold_merge:∀(d out:List Rg),Canon out->(∀p,p∈out->∀r,r∈d->p.lo<=r.lo)->d.Pairwise (fun r s=>r.lo<=s.lo)->(∀r,r∈d->r.lo<=r.hi)->
  Canon (d.foldl mergeS out)/\(∀v,has (d.foldl mergeS out) v=(has out v||has d v))/\(d.foldl mergeS out).length<=out.length+d.length
 |[],out,hc,_,_,_=>⟨hc,fun v=>by simp[has],by simp⟩
 |r::d,out,hc,hlo,hp,hok=>by
  have⟨hp1,hp2⟩:=cB.1 hp
  obtain⟨h1,h2,h3⟩:=mergeS_inv hc (fun p hpm=>hlo p hpm r zx) (hok r zx)
  obtain⟨g1,g2,g3⟩:=fold_merge d (mergeS out r) h1 (fun p hpm s hs=>Int.le_trans (h3 p hpm) (hp1 s hs)) hp2 (fun s hs=>hok s (by simp[hs]))
  refine⟨g1,fun v=>?_,?_⟩
  ·rw[eA,g2,h2,Bool.or_assoc,<-has_append];rfl
  ·have:=mergeS_length out r
   simp only[eA,aK];omega
def okR(r:Rg):Bool:=decide (r.lo<=r.hi)
theorem c39(hs:Sorts)(l:List Rg)(hl:l.length<100000){K:KT}(hK:∀c,Canon c->(∀v,has c v=has l v)->c.length<=l.length->K (encRs c) []):AC 257 [encRs l] [] K:=by
 refine of39 rfl rfl ?_
 (conv=>whnf)
 refine gL Nat (fun k=>⟨2,[(0,.arr 2 (((l.take k).filter okR).map encR)),(1,.arr 2 [])],[(3,.os 0 2 0 ((l.take k).filter okR).length),(4,.os 1 2 0 0),(10,encRs l),(11,.v (.int .i64 (l.map encR).length)),(12,.v (.int .i64 k))]⟩) (fun k=>k<=l.length) (fun k=>l.length-k) 0 ?_ ?_ ?_
 ·exact aL _
 ·exact⟨[(0,0),(1,1)],rfl,⟨rfl,rfl,rfl,rfl,rfl,trivial⟩,⟨rfl,rfl,trivial⟩⟩
 ·intro k hk
  rcases aD k l.length with hkl|hkl
  ·obtain⟨r,hr⟩:=gex hkl
   have b1:=r.l0;have b2:=r.l1;have b3:=r.h0;have b4:=r.h1
   have e:(l.take (k+1)).filter okR=(l.take k).filter okR++(if r.lo<=r.hi then [r]else []):=by
    rw[bH,hr,eB,dB]
    simp only[okR,eD,List.filter_nil,aI]
   have hlen:((l.take k).filter okR).length<=l.length:=bO (dQ _ _) (by rw[bG];omega)
   iterate 30 (all_goals((conv=>whnf);first|(with_reducible first|refine hJ hkl ?_|refine gZ hr ?_)|refine zG ?_|apply zA|intro h|exact zT|skip))
   ·refine⟨k+1,by omega,by omega,?_⟩
    rw[e,aH zp,aQ,aC]
    exact⟨[(0,4),(1,1)],rfl,⟨rfl,rfl,rfl,rfl,rfl,trivial⟩,⟨rfl,rfl,trivial⟩⟩
   ·refine⟨k+1,by omega,by omega,?_⟩
    rw[e,aE zp,bJ]
    exact⟨[(0,0),(1,1)],rfl,⟨rfl,rfl,rfl,rfl,rfl,trivial⟩,⟨rfl,rfl,trivial⟩⟩
  ·rw[bA hkl]
   have hlen:(l.filter okR).length<=l.length:=dQ _ _
   iterate 6 (all_goals((conv=>whnf);first|(with_reducible refine hJ hkl ?_)|refine zG ?_|apply zA|intro h|exact zT|skip))
   refine hs (l.filter okR) _ rfl zo _ fun d hperm hsort=>?_
   have hn:(l.filter okR).length=d.length:=hperm.length_eq.symm
   rw[hn]
   (conv=>whnf)
   refine gL Nat (fun k=>⟨2,[(0,.arr 2 (d.map encR)),(1,.arr 2 (((d.take k).foldl mergeS []).map encR))],[(4,.os 1 2 0 ((d.take k).foldl mergeS []).length),(28,.os 0 2 0 d.length),(29,.v (.int .i64 d.length)),(30,.v (.int .i64 k))]⟩) (fun k=>k<=d.length/\((d.take k).foldl mergeS []).length<=k) (fun k=>d.length-k) 0 ?_ ?_ ?_
   ·exact⟨aL _,by simp⟩
   ·exact⟨[(0,0),(1,1)],rfl,⟨rfl,rfl,rfl,rfl,trivial⟩,⟨rfl,rfl,trivial⟩⟩
   ·intro k ⟨hk,hle⟩
    rcases aD k d.length with hkl|hkl
    ·obtain⟨r,hr⟩:=gex hkl
     have hr0:d[0+k]? =some r:=by rw[bM];exact hr
     have b1:=r.l0;have b2:=r.l1;have b3:=r.h0;have b4:=r.h1
     have hs2:=foldl_succ (f:=mergeS) (b:=[]) hr
     generalize hout:(d.take k).foldl mergeS []=out at hs2 hle⊢
     have hj:(k:Int)<(d.length:Int):=by omega
     rcases cT out with hnil|⟨ini,p,hcat⟩
     ·subst hnil
      iterate 30 (all_goals((conv=>whnf);first|(with_reducible first|refine gS k rfl zo ?_|refine gZ hr ?_|refine gZ hr0 ?_)|refine zG ?_|apply zA|intro h|exact zT|skip))
      refine⟨k+1,⟨by omega,by rw[hs2];simp[mergeS]⟩,by omega,?_⟩
      rw[hs2,show mergeS [] r=[r]from rfl]
      exact⟨[(0,0),(1,4)],rfl,⟨rfl,rfl,rfl,rfl,trivial⟩,⟨rfl,rfl,trivial⟩⟩
     ·rw[cU]at hcat
      subst hcat
      have p1:=p.l0;have p2:=p.l1;have p3:=p.h0;have p4:=p.h1
      have hp:(ini++[p])[ini.length]? =some p:=by simp
      have hp0:(ini++[p])[0+ini.length]? =some p:=by simp
      have hi:((((ini++[p]).length:Nat):Int)-1=ini.length)/\ini.length<(ini++[p]).length:=by simp
      iterate 40 (all_goals((conv=>whnf);first|(with_reducible first|refine gS k rfl zo ?_|refine gZ hr ?_|refine gZ hr0 ?_|refine gS ini.length hi.1 hi.2 ?_|refine gZ hp ?_|refine gZ hp0 ?_)|refine zG ?_|apply zA|intro h|exact zT|skip))
      ·have e:mergeS (ini++[p]) r=ini++[mkR p.lo (max p.hi r.hi)]:=by
        simp only[mergeS,cP,cJ,dP,dD]
        rw[aH zp]
       refine⟨k+1,⟨by omega,by rw[hs2];have:=mergeS_length (ini++[p]) r;omega⟩,by omega,?_⟩
       rw[hs2,e,aQ,aW,bN,enc_mkR zo zo zo zo]
       have e2:(ini.map encR++[.agg [.v (.int .u32 p.lo),.v (.int .u32 (max p.hi r.hi))]])=((ini++[p]).map encR).set (0+ini.length) (.agg [.v (.int .u32 p.lo),.v (.int .u32 (max p.hi r.hi))]):=by
        rw[aQ,dV _ _ zx]
        simp
       rw[e2,show(ini++[mkR p.lo (max p.hi r.hi)]).length=(ini++[p]).length by simp]
       exact⟨[(0,0),(1,1)],rfl,⟨rfl,rfl,rfl,rfl,trivial⟩,⟨rfl,rfl,trivial⟩⟩
      ·have e:mergeS (ini++[p]) r=ini++[p]++[r]:=by
        simp only[mergeS,cP,cJ,dP,dD]
        rw[aE zp]
       refine⟨k+1,⟨by omega,by rw[hs2];have:=mergeS_length (ini++[p]) r;omega⟩,by omega,?_⟩
       rw[hs2,e,aQ (l₁:=ini++[p]),show(ini++[p]++[r]).length=(ini++[p]).length+1 from by simp]
       exact⟨[(0,0),(1,4)],rfl,⟨rfl,rfl,rfl,rfl,trivial⟩,⟨rfl,rfl,trivial⟩⟩
    ·rw[bA hkl]at hle⊢
     iterate 8 (all_goals((conv=>whnf);first|refine zG ?_|apply zA|intro h|exact zT|skip))
     have hok:∀r,r∈d->r.lo<=r.hi:=fun r hr=>by
      have:=(bX.1 (hperm.subset hr)).2
      simpa[okR]using this
     obtain⟨g1,g2,g3⟩:=fold_merge d [] canon_nil (fun p hp=>by simp at hp) hsort hok
     refine hK _ g1 (fun v=>?_) (by simp only[aP]at g3;omega)
     rw[g2,has_nil,fM,bD,has_iff,has_iff]
     constructor
     ·rintro⟨r,hr,h1,h2⟩
      exact⟨r,(bX.1 (hperm.subset hr)).1,h1,h2⟩
     ·rintro⟨r,hr,h1,h2⟩
      refine⟨r,hperm.symm.subset (bX.2 ⟨hr,?_⟩),h1,h2⟩
      simp only[okR,aI];omega
noncomputable def g49:Ctx:={N:=27,hints:=at1 6 ([.virt 0 2]) (fun _=>[]),res:=true}
noncomputable def b49:Code:=bdy Tryz.f305
abbrev of49:=@ofC Tryz.prog g49 305 Tryz.f305 b49 Tryz.func305 zk zk zk zk
noncomputable def g40:Ctx:={N:=36,own:=at1 305 (true) (fun _=>false)}
noncomputable def b40:Code:=bdy Tryz.f258
abbrev of40:=@ofC Tryz.prog g40 258 Tryz.f258 b40 Tryz.func258 zk zk zk zk
def cmpI(x y:Int):Int:=if x<y then-1 else if y<x then 1 else 0
theorem c48(x y:Int){K:KT}(hK:K (.v (.int .i64 (cmpI x y))) []):AC 304 [.v (.int .u32 x),.v (.int .u32 y)] [] K:=by
 refine of48 rfl rfl ?_
 iterate 20 (all_goals((conv=>whnf);first|(with_reducible refine c54 _ ?_)|refine zG ?_|apply zA|intro h|exact zT|skip))
 all_goals
  unfold cmpI at hK
 ·rw[aH zp]at hK;exact hK
 ·rw[aE zp,aH zp]at hK;exact hK
 ·rw[aE zp,aE zp]at hK;exact hK
theorem c47(r s:Rg){K:KT}(hK:K (.v (.int .i64 (cmpI r.lo s.lo))) []):AC 303 [.agg [.v (.int .u32 r.lo),.v (.int .u32 r.hi)],.agg [.v (.int .u32 s.lo),.v (.int .u32 s.hi)]] [] K:=by
 refine of47 rfl rfl ?_
 iterate 6 (all_goals((conv=>whnf);first|(with_reducible refine c48 _ _ ?_)|refine zG ?_|apply zA|intro h|exact zT|skip))
 exact hK
theorem grow_ob{n m:Nat}{c:AV}(hn:n<2000000)(hm:m<10000)(hc:c.cells.all AV.one=true):((List.replicate n c).length+96)*m<=140737488355328/\∀x,x∈List.replicate n c->x.cells.all AV.one=true:=by
 refine⟨?_,fun x hx=>by rw[eJ hx];exact hc⟩
 rw[List.length_replicate]
 have h1:(n+96)*m<=2000096*10000:=dR zo zo
 omega
theorem c49(n:Nat)(hn:n<2000000){K:KT}(hK:∀xs,K (.os 0 2 0 0) [.arr 2 xs]):AC 305 [.nils,.v (.int .i64 n)] [] K:=by
 refine of49 rfl rfl ?_
 iterate 20 (all_goals((conv=>whnf);first|(with_reducible first|refine gV 0 0 rfl rfl zo zo ?_|refine gS n zo zo ?_|refine Ob.intro (grow_ob hn zd (by with_unfolding_all rfl)) ?_)|refine zG ?_|apply zA|intro h|exact zT|skip))
 ·exact hK _
 ·exact hK _
theorem c40(L:List (List Rg))(hL:L.length<1000)(hl:∀l,l∈L->l.length<1000){K:KT}(hK:K (encRs L.flatten) []):AC 258 [.lst (L.map encRs)] [] K:=by
 have sum_le:∀M:List (List Rg),(∀l,l∈M->l.length<1000)->M.flatten.length<=1000*M.length:=by
  intro M
  induction M with
  |nil=>intro _;simp
  |cons m M ih=>
   intro h
   have h1:=h m zx
   have h2:=ih fun l hl=>h l (by simp[hl])
   simp only[eH,aC,aK]
   omega
 have next:∀{k:Nat} {l:List Rg},L[k]? =some l->(L.take (k+1)).flatten=(L.take k).flatten++l:=by
  intro k l h
  rw[bH,h,eB,List.flatten_append]
  simp
 have bound:∀k,k<=L.length->(L.take k).flatten.length<=1000000:=by
  intro k hk
  have:=sum_le (L.take k) fun l h=>hl l (cO h)
  rw[bG]at this
  omega
 refine of40 rfl rfl ?_
 (conv=>whnf)
 refine gL Nat (fun k=>⟨0,[],[(0,.lst (L.map encRs)),(3,.v (.int .i64 ((L.take k).flatten.length:Int))),(9,.lst (L.map encRs)),(10,.v (.int .i64 (L.map encRs).length)),(11,.v (.int .i64 k))]⟩) (fun k=>k<=L.length) (fun k=>L.length-k) 0 ?_ ?_ ?_
 ·exact aL _
 ·exact⟨[],rfl,⟨rfl,rfl,rfl,rfl,rfl,trivial⟩,trivial⟩
 ·intro k hk
  rcases aD k L.length with hkl|hkl
  ·obtain⟨l,hx⟩:=gex hkl
   have hb:=bound k hk
   have hll:=hl l (aG hx)
   have hn:=next hx
   have hlen:((L.take (k+1)).flatten.length:Int)=((L.take k).flatten.length:Int)+((l.map encR).length:Int):=by rw[hn,aC,aA];omega
   have hml:(l.map encR).length<1000:=by rw[aA];exact hll
   generalize (L.take k).flatten.length=n at hb hlen
   iterate 30 (all_goals((conv=>whnf);first|(with_reducible first|refine hJ hkl ?_|refine gZ hx ?_)|refine zG ?_|apply zA|intro h|exact zT|skip))
   refine⟨k+1,by omega,by omega,?_⟩
   rw[hlen]
   exact⟨[],rfl,⟨rfl,rfl,rfl,rfl,rfl,trivial⟩,trivial⟩
  ·have e:L.take k=L:=bA hkl
   have hb:=bound k hk
   rw[e]at hb⊢
   (conv=>whnf)
   refine br_neg (by rw[aA];omega) ?_
   (conv=>whnf)
   refine c49 L.flatten.length zo fun xs=>?_
   (conv=>whnf)
   refine gL Nat (fun k=>⟨1,[(0,.arr 2 (if k=0 then xs else(L.take k).flatten.map encR))],[(6,.os 0 2 0 (L.take k).flatten.length),(25,.lst (L.map encRs)),(26,.v (.int .i64 (L.map encRs).length)),(27,.v (.int .i64 k))]⟩) (fun k=>k<=L.length) (fun k=>L.length-k) 0 ?_ ?_ ?_
   ·exact aL _
   ·exact⟨[(0,0)],rfl,⟨rfl,rfl,rfl,rfl,trivial⟩,⟨rfl,trivial⟩⟩
   ·intro k hk
    have tk:((if k=0 then xs else(L.take k).flatten.map encR).drop 0).take (L.take k).flatten.length=(L.take k).flatten.map encR:=by
     by_cases h0:k=0
     ·subst h0;simp
     ·rw[aE h0,cA]
      exact bA (by rw[aA];exact aJ _)
    have tl:0+(L.take k).flatten.length<=(if k=0 then xs else(L.take k).flatten.map encR).length:=by
     by_cases h0:k=0
     ·subst h0;simp
     ·rw[aE h0,aA,bM];exact aJ _
    rcases aD k L.length with hkl|hkl
    ·obtain⟨l,hx⟩:=gex hkl
     have hb:=bound k hk
     have hll:=hl l (aG hx)
     have hn:=next hx
     have hlen:(L.take (k+1)).flatten.length=(L.take k).flatten.length+(l.map encR).length:=by rw[hn,aC,aA]
     have hml:(l.map encR).length<1000:=by rw[aA];exact hll
     iterate 30 (all_goals((conv=>whnf);first|(with_reducible first|refine hJ hkl ?_|refine gZ hx ?_|refine Sl.intro tl tk ?_)|refine zG ?_|apply zA|intro h|exact zT|skip))
     refine⟨k+1,by omega,by omega,?_⟩
     rw[aE (Nat.succ_ne_zero k),hlen,hn,aQ]
     exact⟨[(0,1)],rfl,⟨rfl,rfl,rfl,rfl,trivial⟩,⟨rfl,trivial⟩⟩
    ·have hkL:k=L.length:=by omega
     iterate 10 (all_goals((conv=>whnf);first|(with_reducible refine Sl.intro tl tk ?_)|refine zG ?_|apply zA|intro h|exact zT|skip))
     rw[hkL,cY]
     exact hK
noncomputable def g19:Ctx:={N:=71,plan:=at1 5 (some (ln [1,3,5,7,9,11,13,15,17,19,21,23,25,27,29,31,33,35,37,39,41,43,45,47])) (at1 8 (some (ln [1,3,5,7,9,11,13,15,17,19,21])) (fun _=>none)),hints:=at1 3 ([.virt 5 2]) (fun _=>[])}
noncomputable def b19:Code:=bdy Tryz.f297
abbrev of19:=@ofC Tryz.prog g19 297 Tryz.f297 b19 Tryz.func297 zk zk zk zk
noncomputable def g18:Ctx:={N:=10}
noncomputable def b18:Code:=bdy Tryz.f186
abbrev of18:=@ofC Tryz.prog g18 186 Tryz.f186 b18 Tryz.func186 zk zk zk zk
noncomputable abbrev itO(i n:Nat):Vm.Obj:=.box [.os i 7 0 n]
noncomputable abbrev arI(its:List It):Vm.Obj:=.arr 7 (its.map encIt)
def visS(x:It)(its:List It):Int×List It:=(0,its++[x])
theorem visS_sz(x:It)(its:List It)(h:(visS x its).1=0):(visS x its).2.length<=its.length+1000:=by
 simp[visS]
theorem cwAdI(x:It)(its:List It)(hl:its.length<100000000000){K:KT}(hK:K (.v (.int .i64 (visS x its).1)) [itO 2 (visS x its).2.length,.box [],arI (visS x its).2]):
  AC 266 [encIt x,.op 0 0] [itO 1 its.length,arI its] K:=by
 refine ofwS1 rfl rfl ?_
 (repeat' ((conv=>whnf);first|refine zG ?_|apply zA|intro h|exact zT));all_goals conv=>whnf
 simp only[visS,itO,arI,aC,aQ]at hK
 exact hK
noncomputable abbrev fsO(l:List Df):Vm.Obj:=.box [.lst (l.map encDf),.mp 1,.mp 2,.fn (.func 266) [] [.op 3 0]]
theorem cwFos(l:List Df)(hl:l.length<=999)(hit:∀d,d∈l->d.items.length<=999):∀(k:Nat) (p:List Nat) (nm:ByteArray) (d:List Nat) (rs:List It),Fine l p d->p.length+k=l.length+1->rs.length<=1000000*(d.length+p.length)->∀{K:KT},
  K (.v (.int .i64 (fol (visS) l k p nm d rs).1)) [fsO l,.map (nameM l p),.map (nameM l (fol (visS) l k p nm d rs).2.1),itO 5 (fol (visS) l k p nm d rs).2.2.length,.box [],arI (fol (visS) l k p nm d rs).2.2]->
  AC 318 [.op 0 0,.v (.string nm)] [fsO l,.map (nameM l p),.map (nameM l d),itO 4 rs.length,arI rs] K
 |0,p,nm,d,rs,hf,hk,hrs,K,hK=>by
  have:=hf.small
  omega
 |k+1,p,nm,d,rs,hf,hk,hrs,K,hK=>by
  refine ofwFos rfl rfl ?_
  have hsm:=hf.small
  cases hn:findD l nm with
  |none=>
   have hix:∀{K:KT},K (.v (.int .i64 (-1))) []->AC 293 [.lst (l.map encDf),.fn (.func 335) [] [.fp [.v (.string nm)]]] [] K:=fun {K} h=>
    cwIxD l nm zo (by rw[firstIx_find,hn];exact h)
   simp only[fol,hn]at hK
   (repeat' ((conv=>whnf);first|(with_reducible refine hix ?_)|refine zG ?_|apply zA|intro h|exact zT));all_goals conv=>whnf
   exact hK
  |some n=>
   obtain⟨df,hdf,hname,hnl⟩:=findD_some hn
   have hix:∀{K:KT},K (.v (.int .i64 n)) []->AC 293 [.lst (l.map encDf),.fn (.func 335) [] [.fp [.v (.string nm)]]] [] K:=fun {K} h=>
    cwIxD l nm zo (by rw[firstIx_find,hn];exact h)
   by_cases hp:n∈p
   ·simp only[fol,hn,aH hp]at hK
    (repeat' ((conv=>whnf);first|(with_reducible first|refine hix ?_|refine mg_some (nameM_in hn hp) ?_)|refine zG ?_|apply zA|intro h|exact zT));all_goals conv=>whnf
    exact hK
   by_cases hd:n∈d
   ·simp only[fol,hn,aE hp,aH hd]at hK
    (repeat' ((conv=>whnf);first|(with_reducible first|refine hix ?_|refine mg_none (nameM_out hf.pf hn hp) ?_|refine mg_some (nameM_in hn hd) ?_)|refine zG ?_|apply zA|intro h|exact zT));all_goals conv=>whnf
    exact hK
   simp only[fol,hn,aE hp,aE hd,hdf,cZ,cW]at hK
   (repeat' ((conv=>whnf);first|(with_reducible first|refine hix ?_|refine mg_none (nameM_out hf.pf hn hp) ?_|refine mg_none (nameM_out hf.df hn hd) ?_|refine gY (updM_name hn) ?_|refine hJ hnl ?_|refine gZ hdf ?_)|refine zG ?_|apply zA|intro h|exact zT));all_goals conv=>whnf
   have hpush:=hf.push hn hp hd
   have hfed:=fun(q:Nat) nm d s h h0=>fol_fed (visS) List.length visS_sz l hit q (p++[n]) nm d s h h0
   have hlen:=hit df (aG hdf)
   refine gL (Nat×List Nat×List It) (fun g=>⟨7,[(0,fsO l),(1,.map (nameM l (p++[n]))),(2,.map (nameM l g.2.1)),(3,itO 5 g.2.2.length),(5,arI g.2.2),(6,.box [.v (.string nm)])],[(0,.op 0 0),(3,.op 6 0),(49,.lst (df.items.map encIt)),(50,.v (.int .i64 (df.items.map encIt).length)),(51,.v (.int .i64 g.1)),(DS,.dfr 1 nm)]⟩)
    (fun g=>g.1<=df.items.length/\Fine l (p++[n]) g.2.1/\folI (visS) (fol (visS) l k (p++[n])) df.items d rs=folI (visS) (fol (visS) l k (p++[n])) (df.items.drop g.1) g.2.1 g.2.2/\d.length<=g.2.1.length/\g.2.2.length+1000000*d.length<=rs.length+1000000*g.2.1.length+1000*g.1)
    (fun g=>df.items.length-g.1) (0,d,rs) ⟨aL _,hpush,by rw[cA],aJ _,by simp only;omega⟩ ?_ ?_
   ·(exact leA)
   rintro⟨i,d1,rs1⟩ ⟨hi,hf1,heq,hd1,hsz⟩
   simp only at hi hf1 heq hd1 hsz⊢
   rcases aD i df.items.length with hil|hil
   ·obtain⟨x,hx⟩:=gex hil
    have hdr:df.items.drop i=x::df.items.drop (i+1):=by
     rw[aZ hil]
     congr 1
     rw[aB hil]at hx;cases hx;rfl
    rw[hdr,folI_cons]at heq
    have hsm1:=hf1.small
    rw[aC,bZ]at hsm1
    by_cases hk3:x.kind=3
    ·simp only[aH hk3]at heq
     have hc:=fun {K} h=>@cwFos l hl hit k (p++[n]) x.name d1 rs1 hf1 (by rw[aC];simp only[bZ];omega) (by rw[aC];simp only[bZ];omega) K h
     have hfq:=hfed k x.name d1 rs1 hf1
     generalize fol (visS) l k (p++[n]) x.name d1 rs1=q at*
     obtain⟨qe,qd,qs⟩:=q
     simp only at heq hc hfq
     (repeat' ((conv=>whnf);first|(with_reducible first|refine hJ hil ?_|refine gZ hx ?_|refine hc ?_|refine gY (delM_name hf.pf hn hp) ?_)|refine zG ?_|apply zA|intro h|exact zT));all_goals conv=>whnf
     all_goals first
      |(have hne:¬qe=0:=by first|assumption|(intro e;simp_all;done)
        rw[heq,aE hne]at hK
        simp only[aE hne]at hK
        exact hK)
      |(have h0:qe=0:=by first|assumption|(simp_all;done)
        have hfq:=hfq h0
        refine⟨(i+1,qd,qs),⟨hil,hfq.fine,by rw[heq,aH h0],by have:=hfq.le;simp only;omega,by have:=hfq.size;simp only;omega⟩,by simp only;omega,?_⟩
        simp only[aO,aN]
        (exact leA)
        done)
    ·simp only[aE hk3]at heq
     have hc:=fun {K} h=>@cwAdI x rs1 zo K h
     have hvz:=visS_sz x rs1
     generalize visS x rs1=q at*
     obtain⟨qe,qs⟩:=q
     simp only at heq hc hvz
     (repeat' ((conv=>whnf);first|(with_reducible first|refine hJ hil ?_|refine gZ hx ?_|refine hc ?_|refine gY (delM_name hf.pf hn hp) ?_)|refine zG ?_|apply zA|intro h|exact zT));all_goals conv=>whnf
     all_goals first
      |(have hne:¬qe=0:=by first|assumption|(intro e;simp_all;done)
        rw[heq,aE hne]at hK
        simp only[aE hne]at hK
        exact hK)
      |(have h0:qe=0:=by first|assumption|(simp_all;done)
        have hvz:=hvz h0
        refine⟨(i+1,d1,qs),⟨hil,hf1,by rw[heq,aH h0],by skip;simp only;omega,by skip;simp only;omega⟩,by simp only;omega,?_⟩
        simp only[aO,aN]
        (exact leA)
        done)
   ·have hie:i=df.items.length:=by omega
    rw[hie,List.drop_length,folI_nil]at heq
    rw[heq]at hK
    simp only[if_true]at hK
    (repeat' ((conv=>whnf);first|(with_reducible first|refine gY (updM_name hn) ?_|refine gY (delM_name hf.pf hn hp) ?_)|refine zG ?_|apply zA|intro h|exact zT));all_goals conv=>whnf
    exact hK
end Go.Proofs.YtbdikofefjljoaaGreatDoor
