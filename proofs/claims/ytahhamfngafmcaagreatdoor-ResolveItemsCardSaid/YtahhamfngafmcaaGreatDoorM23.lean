/- The program's packet sets: Initial. -/
import Derived.Test.YtahhamfngafmcaaGreatDoorProg
import Derived.Test.YtahhamfngafmcaaGreatDoorM22
set_option linter.unusedVariables false
set_option linter.unusedSimpArgs false
set_option maxRecDepth 100000
set_option maxHeartbeats 4000000
namespace Go.Proofs.YtahhamfngafmcaaGreatDoor
open Go Go.Vm
theorem cxInitC(xs:List AV)(n:Nat)(hn:xs.length=n)(hn2:n<1000)(p0 p1 s0 s1 d0 d1:Int){K:KT}
  (hK:K (.tup []) [.box [.os 2 10 0 (n+1)],.box [],.arr 10 (xs++[.agg [.v (.int .u32 0),.v (.int .u32 4294967295),.v (.int .u32 0),.v (.int .u32 4294967295),.v (.int .u32 p0),.v (.int .u32 p1),.v (.int .u32 s0),.v (.int .u32 s1),.v (.int .u32 d0),.v (.int .u32 d1)]])]):
  ACall Tryz.prog 152 [.v (.int .u32 p0),.v (.int .u32 p1),.v (.int .u32 s0),.v (.int .u32 s1),.v (.int .u32 d0),.v (.int .u32 d1),.op 0 0] [.box [.os 1 10 0 n],.arr 10 xs] K:=by
 refine ofxInitC rfl rfl ?_
 (repeat' ((conv=>whnf);first|(with_reducible refine cxFull ?_)|(refine in_c (by decide) ?_)|(with_reducible refine sl_full hn ?_)|refine zG ?_|apply zA|(apply zI;intro h)|exact zT));(all_goals conv=>whnf)
 exact hK
theorem cxInit{K:KT}(hK:K (encXs initS) []):ACall Tryz.prog 92 [] [] K:=by
 have hTop:∀{K:KT},K (.v (.int .u32 65535)) []->ACall Tryz.prog 153 [.v (.int .i64 4)] [] K:=fun h=>cxTop 4 h
 refine ofxInit rfl rfl ?_
 (repeat' ((conv=>whnf);first|(with_reducible refine hTop ?_)|(refine cxInitC _ _ (by rfl) (by decide) _ _ _ _ _ _ ?_)|refine zG ?_|apply zA|(apply zI;intro h)|exact zT));(all_goals conv=>whnf)
 exact hK
theorem fineNil(l:List Df):Fine l [] []:=⟨List.Pairwise.nil,List.Pairwise.nil,Firsts.nil,Firsts.nil,fun n h=>(by cases h),fun n h=>(by cases h),fun n h=>(by cases h)⟩
inductive Lead {U:Type} (l:List Df) (vis:It->U->Prop):ByteArray->U->Prop
 |here {nm:ByteArray} {n:Nat} {d:Df} {x:It} {u:U} (h1:findD l nm=some n) (h2:l[n]? =some d) (h3:x∈d.items) (h4:x.kind≠3) (h5:vis x u):Lead l vis nm u
 |there {nm:ByteArray} {n:Nat} {d:Df} {x:It} {u:U} (h1:findD l nm=some n) (h2:l[n]? =some d) (h3:x∈d.items) (h4:x.kind=3) (h5:Lead l vis x.name u):Lead l vis nm u
inductive Good (l:List Df) (ok:It->Bool):ByteArray->Prop
 |mk {nm:ByteArray} {n:Nat} {d:Df} (h1:findD l nm=some n) (h2:l[n]? =some d) (h3:∀x,x∈d.items->x.kind≠3->ok x=true) (h4:∀x,x∈d.items->x.kind=3->Good l ok x.name):Good l ok nm
inductive Need (l:List Df):Nat->Nat->Prop
 |one {n m:Nat} {d:Df} {x:It} (h1:l[n]? =some d) (h2:x∈d.items) (h3:x.kind=3) (h4:findD l x.name=some m):Need l n m
 |more {n m k:Nat} (h1:Need l n m) (h2:Need l m k):Need l n k
theorem Need.first{l:List Df}{n k:Nat}(h:Need l n k):∃d x m,l[n]? =some d/\x∈d.items/\x.kind=3/\findD l x.name=some m/\(m=k\/Need l m k):=by
 induction h with
 |one h1 h2 h3 h4=>exact⟨_,_,_,h1,h2,h3,h4,.inl rfl⟩
 |more h1 h2 ih1 ih2=>
  obtain⟨d,x,m,g1,g2,g3,g4,g5⟩:=ih1
  refine⟨d,x,m,g1,g2,g3,g4,.inr ?_⟩
  rcases g5 with rfl|g5
  ·exact h2
  ·exact .more g5 h2
theorem good_acyc{l:List Df}{ok:It->Bool}{nm:ByteArray}(h:Good l ok nm):∀n,findD l nm=some n->(∀k,Need l n k->¬Need l k k)/\¬Need l n n:=by
 induction h with
 |mk h1 h2 h3 h4 ih=>
  intro n hn
  rw[h1]at hn;cases hn
  have hk:∀k,Need l _ k->¬Need l k k:=fun k hnk hkk=>by
   obtain⟨d',x,m,g1,g2,g3,g4,g5⟩:=hnk.first
   rw[h2]at g1;cases g1
   rcases g5 with rfl|g5
   ·exact(ih x g2 g3 m g4).2 hkk
   ·exact(ih x g2 g3 m g4).1 k g5 hkk
  exact⟨hk,fun hnn=>hk _ hnn hnn⟩
section
variable {S U:Type} (v:It->S->Int×S) (mem:S->U->Prop) (vis:It->U->Prop) (ok:It->Bool)
structure Vis:Prop where
 add:∀x s,(v x s).1=0->∀u,mem (v x s).2 u↔(mem s u\/vis x u)
 ok:∀x s,(v x s).1=0↔ok x=true
structure Closed (l:List Df) (d:List Nat) (s:S):Prop where
 it:∀n,n∈d->∀df,l[n]? =some df->∀x,x∈df.items->x.kind≠3->∀u,vis x u->mem s u
 nm:∀n,n∈d->∀df,l[n]? =some df->∀x,x∈df.items->x.kind=3->∃m,m∈d/\findD l x.name=some m
 good:∀n,n∈d->∀nm,findD l nm=some n->Good l ok nm
structure Fol (l:List Df) (p:List Nat) (d:List Nat) (s:S) (d':List Nat) (s':S) (new:U->Prop):Prop where
 fine:Fine l p d'
 closed:Closed mem vis ok l d' s'
 sub:∀n,n∈d->n∈d'
 up:∀u,mem s u->mem s' u
 dn:∀u,mem s' u->mem s u\/new u
theorem lead_done{l:List Df}{d:List Nat}{s:S}(h:Closed mem vis ok l d s){nm:ByteArray}{u:U}(hl:Lead l vis nm u):∀m,m∈d->findD l nm=some m->mem s u:=by
 induction hl with
 |here h1 h2 h3 h4 h5=>
  intro m hm hf
  rw[h1]at hf;cases hf
  exact h.it _ hm _ h2 _ h3 h4 _ h5
 |there h1 h2 h3 h4 h5 ih=>
  intro m hm hf
  rw[h1]at hf;cases hf
  obtain⟨m',h6,h7⟩:=h.nm _ hm _ h2 _ h3 h4
  exact ih m' h6 h7
variable (hv:Vis v mem vis ok)
include hv
theorem folI_fol{l:List Df}{p:List Nat}{rec:ByteArray->List Nat->S->Int×List Nat×S}
  (hrec:∀nm d s,Fine l p d->Closed mem vis ok l d s->(rec nm d s).1=0->Fol mem vis ok l p d s (rec nm d s).2.1 (rec nm d s).2.2 (Lead l vis nm)/\∃m,m∈(rec nm d s).2.1/\findD l nm=some m):
  ∀(its:List It) (d:List Nat) (s:S),Fine l p d->Closed mem vis ok l d s->(folI v rec its d s).1=0->
  Fol mem vis ok l p d s (folI v rec its d s).2.1 (folI v rec its d s).2.2 (fun u=>∃x,x∈its/\((x.kind≠3/\vis x u)\/(x.kind=3/\Lead l vis x.name u)))/\
  (∀x,x∈its->x.kind≠3->ok x=true/\∀u,vis x u->mem (folI v rec its d s).2.2 u)/\∀x,x∈its->x.kind=3->∃m,m∈(folI v rec its d s).2.1/\findD l x.name=some m
 |[],d,s,hf,hc,_=>⟨⟨hf,hc,fun _ h=>h,fun _ h=>h,fun _ h=>.inl h⟩,fun x h=>(by cases h),fun x h=>(by cases h)⟩
 |x::r,d,s,hf,hc,h=>by
  rw[folI_cons]at h⊢
  have hq:(if x.kind=3 then rec x.name d s else((v x s).1,d,(v x s).2)).1=0->
    Fol mem vis ok l p d s (if x.kind=3 then rec x.name d s else((v x s).1,d,(v x s).2)).2.1 (if x.kind=3 then rec x.name d s else((v x s).1,d,(v x s).2)).2.2 (fun u=>(x.kind≠3/\vis x u)\/(x.kind=3/\Lead l vis x.name u))/\
    (x.kind≠3->ok x=true/\∀u,vis x u->mem (if x.kind=3 then rec x.name d s else((v x s).1,d,(v x s).2)).2.2 u)/\(x.kind=3->∃m,m∈(if x.kind=3 then rec x.name d s else((v x s).1,d,(v x s).2)).2.1/\findD l x.name=some m):=by
   by_cases hk:x.kind=3
   ·rw[if_pos hk]
    intro h0
    obtain⟨g,gm⟩:=hrec x.name d s hf hc h0
    exact⟨⟨g.fine,g.closed,g.sub,g.up,fun u hu=>(g.dn u hu).imp id fun hl=>.inr ⟨hk,hl⟩⟩,fun hn=>absurd hk hn,fun _=>gm⟩
   ·rw[if_neg hk]
    intro h0
    have ha:=hv.add x s h0
    exact⟨⟨hf,⟨fun n hn df hdf y hy hy3 u hu=>(ha u).2 (.inl (hc.it n hn df hdf y hy hy3 u hu)),hc.nm,hc.good⟩,fun _ h=>h,fun u hu=>(ha u).2 (.inl hu),fun u hu=>((ha u).1 hu).imp id fun hx=>.inl ⟨hk,hx⟩⟩,
     fun _=>⟨(hv.ok x s).1 h0,fun u hu=>(ha u).2 (.inr hu)⟩,fun h3=>absurd h3 hk⟩
  generalize (if x.kind=3 then rec x.name d s else((v x s).1,d,(v x s).2))=q at*
  by_cases h0:q.1=0
  ·rw[if_pos h0]at h⊢
   obtain⟨g,g1,g2⟩:=hq h0
   obtain⟨f,f1,f2⟩:=folI_fol hrec r q.2.1 q.2.2 g.fine g.closed h
   refine⟨⟨f.fine,f.closed,fun n hn=>f.sub n (g.sub n hn),fun u hu=>f.up u (g.up u hu),fun u hu=>?_⟩,fun y hy hy3=>?_,fun y hy hy3=>?_⟩
   ·rcases f.dn u hu with h1|⟨y,hy,h1⟩
    ·rcases g.dn u h1 with h1|h1
     ·exact .inl h1
     ·exact .inr ⟨x,by simp,h1⟩
    ·exact .inr ⟨y,List.mem_cons_of_mem _ hy,h1⟩
   ·rcases List.mem_cons.1 hy with rfl|hy
    ·exact⟨(g1 hy3).1,fun u hu=>f.up u ((g1 hy3).2 u hu)⟩
    ·exact f1 y hy hy3
   ·rcases List.mem_cons.1 hy with rfl|hy
    ·obtain⟨m,hm,hfm⟩:=g2 hy3
     exact⟨m,f.sub m hm,hfm⟩
    ·exact f2 y hy hy3
  ·rw[if_neg h0]at h;exact absurd h h0
theorem fol_fol(l:List Df):∀(k:Nat) (p:List Nat) (nm:ByteArray) (d:List Nat) (s:S),Fine l p d->Closed mem vis ok l d s->(fol v l k p nm d s).1=0->
  Fol mem vis ok l p d s (fol v l k p nm d s).2.1 (fol v l k p nm d s).2.2 (Lead l vis nm)/\∃m,m∈(fol v l k p nm d s).2.1/\findD l nm=some m
 |0,p,nm,d,s,hf,hc,h=>by simp[fol]at h
 |k+1,p,nm,d,s,hf,hc,h=>by
  unfold fol at h⊢
  cases hn:findD l nm with
  |none=>simp[hn]at h
  |some n=>
   simp only[hn]at h⊢
   split at h
   ·simp at h
   rename_i hp
   rw[if_neg hp]
   split at h
   ·rename_i hd
    rw[if_pos hd]
    exact⟨⟨hf,hc,fun _ h=>h,fun _ h=>h,fun _ h=>.inl h⟩,n,hd,rfl⟩
   rename_i hd
   rw[if_neg hd]
   obtain⟨df,hdf,hname,_⟩:=findD_some hn
   simp only[hdf,Option.map_some,Option.getD_some]at h⊢
   have hpush:=hf.push hn hp hd
   split at h
   ·rename_i h0
    rw[if_pos h0]
    obtain⟨g,g1,g2⟩:=folI_fol v mem vis ok hv (fun nm d s hf hc h=>fol_fol l k (p++[n]) nm d s hf hc h) df.items d s hpush hc h0
    simp only
    have hgood:Good l ok nm:=.mk hn hdf (fun x hx h3=>(g1 x hx h3).1) fun x hx h3=>by
     obtain⟨m,hm,hfm⟩:=g2 x hx h3
     exact g.closed.good m hm x.name hfm
    refine⟨⟨g.fine.pop hn,⟨fun m hm e he x hx h3 u hu=>?_,fun m hm e he x hx h3=>?_,fun m hm nm2 hf2=>?_⟩,fun m hm=>List.mem_append_left _ (g.sub m hm),g.up,fun u hu=>?_⟩,n,by simp,rfl⟩
    ·rcases List.mem_append.1 hm with hm|hm
     ·exact g.closed.it m hm e he x hx h3 u hu
     ·rw[List.mem_singleton.1 hm,hdf]at he;cases he
      exact(g1 x hx h3).2 u hu
    ·rcases List.mem_append.1 hm with hm|hm
     ·obtain⟨m2,h1,h2⟩:=g.closed.nm m hm e he x hx h3
      exact⟨m2,List.mem_append_left _ h1,h2⟩
     ·rw[List.mem_singleton.1 hm,hdf]at he;cases he
      obtain⟨m2,h1,h2⟩:=g2 x hx h3
      exact⟨m2,List.mem_append_left _ h1,h2⟩
    ·rcases List.mem_append.1 hm with hm|hm
     ·exact g.closed.good m hm nm2 hf2
     ·rw[List.mem_singleton.1 hm]at hf2
      obtain⟨df2,hdf2,hname2,_⟩:=findD_some hf2
      rw[hdf]at hdf2;cases hdf2
      rw[<-hname2,hname];exact hgood
    ·rcases g.dn u hu with h1|⟨x,hx,⟨h3,h4⟩|⟨h3,h4⟩⟩
     ·exact .inl h1
     ·exact .inr (.here hn hdf hx h3 h4)
     ·exact .inr (.there hn hdf hx h3 h4)
   ·rename_i h0;exact absurd h h0
theorem fol_lead(l:List Df)(nm:ByteArray)(s:S)(hs:∀u,¬mem s u)(h:(fol v l (l.length+1) [] nm [] s).1=0):
  Good l ok nm/\∀u,mem (fol v l (l.length+1) [] nm [] s).2.2 u↔Lead l vis nm u:=by
 obtain⟨g,m,hm,hf⟩:=fol_fol v mem vis ok hv l (l.length+1) [] nm [] s (fineNil l) ⟨fun n h=>(by cases h),fun n h=>(by cases h),fun n h=>(by cases h)⟩ h
 refine⟨g.closed.good m hm nm hf,fun u=>⟨fun hu=>?_,fun hl=>lead_done mem vis ok g.closed hl m hm hf⟩⟩
 rcases g.dn u hu with h1|h1
 ·exact absurd h1 (hs u)
 ·exact h1
theorem folI_good{rec:ByteArray->List Nat->S->Int×List Nat×S}:∀(its:List It) (d:List Nat) (s:S),
  (∀x,x∈its->x.kind≠3->ok x=true)->(∀x,x∈its->x.kind=3->∀d s,(rec x.name d s).1=0)->(folI v rec its d s).1=0
 |[],d,s,_,_=>rfl
 |x::r,d,s,h1,h2=>by
  rw[folI_cons]
  have hq:(if x.kind=3 then rec x.name d s else((v x s).1,d,(v x s).2)).1=0:=by
   by_cases hk:x.kind=3
   ·rw[if_pos hk];exact h2 x (by simp) hk d s
   ·rw[if_neg hk];exact(hv.ok x s).2 (h1 x (by simp) hk)
  rw[if_pos hq]
  exact folI_good r _ _ (fun y hy=>h1 y (List.mem_cons_of_mem _ hy)) fun y hy=>h2 y (List.mem_cons_of_mem _ hy)
theorem fol_good{l:List Df}{nm:ByteArray}(h:Good l ok nm):∀(k:Nat) (p:List Nat) (d:List Nat) (s:S),p.Nodup->(∀n,n∈p->n<l.length)->p.length+k=l.length+1->(∀n,findD l nm=some n->n∉p/\∀m,Need l n m->m∉p)->(fol v l k p nm d s).1=0:=by
 induction h with
 |@mk nm n df h1 h2 h3 h4 ih=>
  intro k p d s hp hpl hk hnp
  obtain⟨hnp1,hnp2⟩:=hnp n h1
  have hnl:=(List.getElem?_eq_some_iff.1 h2).1
  cases k with
  |zero=>
   exfalso
   have:=nodupLe hp hpl
   omega
  |succ k=>
   unfold fol
   simp only[h1]
   rw[if_neg hnp1]
   split
   ·rfl
   ·simp only[h2,Option.map_some,Option.getD_some]
    have hac:=good_acyc (Good.mk (ok:=ok) h1 h2 h3 h4) n h1
    have h0:=folI_good v mem vis ok hv (rec:=fol v l k (p++[n])) df.items d s h3 fun x hx hx3 d s=>by
     refine ih x hx hx3 k (p++[n]) d s (List.nodup_append.2 ⟨hp,by simp,fun a ha b hb e=>by rw[List.mem_singleton.1 hb]at e;exact hnp1 (e▸ha)⟩) (fun m hm=>?_) (by rw[List.length_append];simp only[List.length_singleton];omega) fun m hm=>?_
     ·rcases List.mem_append.1 hm with hm|hm
      ·exact hpl m hm
      ·rw[List.mem_singleton.1 hm];exact hnl
     ·have hone:Need l n m:=.one h2 hx hx3 hm
      refine⟨fun hmp=>?_,fun q hq hqp=>?_⟩
      ·rcases List.mem_append.1 hmp with hmp|hmp
       ·exact hnp2 m hone hmp
       ·rw[List.mem_singleton.1 hmp]at hone;exact hac.2 hone
      ·rcases List.mem_append.1 hqp with hqp|hqp
       ·exact hnp2 q (.more hone hq) hqp
       ·rw[List.mem_singleton.1 hqp]at hq;exact hac.2 (.more hone hq)
    rw[if_pos h0]
theorem fol_good0{l:List Df}{nm:ByteArray}(h:Good l ok nm)(s:S):(fol v l (l.length+1) [] nm [] s).1=0:=
 fol_good v mem vis ok hv h (l.length+1) [] [] s List.Pairwise.nil (fun n h=>(by cases h)) (by simp) fun n _=>⟨by simp,fun m _=>by simp⟩
end
noncomputable def gl17Itm:Ctx:={N:=149,own:=at1 9 (true) (at1 10 (true) (at1 11 (true) (at1 12 (true) (at1 14 (true) (fun _=>false))))),plan:=at1 4 (some (.one 0 true (.one 2 true (.one 3 true (.one 4 true (.one 5 true (.wch 1 (.alt 6 (.one 7 true (.one 8 true (.one 9 false (.one 10 false (.done))))) (.alt 9 (.one 6 false (.one 7 true (.one 8 true (.one 10 false (.done))))) (.stop)))))))))) (at1 19 (some (ln [1,3,5,7,9,11,13,15,16,19,21])) (at1 21 (some (ln [1,3,5,7,9,10,13])) (at1 22 (some (ln [1,3,5,7,9,11,13,15,17,19,21,23,25,27,29,31,33])) (fun _=>none)))),hints:=at1 3 ([.freezeB 6]) (fun _=>[])}
noncomputable def bl17Itm:Code:=bdy Tryz.f3
abbrev ofl17Itm:=@ofC Tryz.prog gl17Itm 3 Tryz.f3 bl17Itm Tryz.func3 (by kernel_rfl) (by kernel_rfl) (by kernel_rfl) (by kernel_rfl)
noncomputable def gnStm:Ctx:={N:=92,np:=2,own:=at1 12 (true) (at1 69 (true) (fun _=>false)),plan:=at1 1 (some (.one 0 true (.one 3 true (.one 4 true (.one 7 true (.one 8 true (.one 11 true (.one 12 true (.wch 5 (.wch 9 (.wch 13 (.alt 1 (.one 2 true (.alt 6 (.alt 10 (.alt 14 (.one 15 true (.one 16 false (.one 17 false (.done)))) (.alt 16 (.one 14 false (.one 15 true (.one 17 false (.done)))) (.stop))) (.alt 16 (.one 10 false (.one 14 false (.one 15 true (.one 17 false (.done))))) (.stop))) (.alt 16 (.one 6 false (.one 10 false (.one 14 false (.one 15 true (.one 17 false (.done)))))) (.stop)))) (.alt 16 (.one 1 false (.one 2 true (.one 6 false (.one 10 false (.one 14 false (.one 15 true (.one 17 false (.done)))))))) (.stop)))))))))))))) (at1 3 (some (.one 0 true (.one 1 true (.one 2 true (.one 4 true (.one 5 true (.one 8 true (.wch 6 (.one 3 false (.one 7 false (.one 9 false (.one 10 true (.one 11 false (.one 12 true (.one 13 false (.done)))))))))))))))) (at1 8 (some (.one 0 true (.one 2 true (.one 3 true (.one 4 true (.one 5 true (.wch 1 (.one 6 false (.one 7 true (.one 8 true (.one 9 true (.one 10 true (.one 11 false (.done)))))))))))))) (fun _=>none))),cut:=at1 4 (true) (at1 7 (true) (at1 9 (true) (fun _=>false)))}
noncomputable def bnStm:Code:=bdy Tryz.f40
abbrev ofnStm:=@ofC Tryz.prog gnStm 40 Tryz.f40 bnStm Tryz.func40 (by kernel_rfl) (by kernel_rfl) (by kernel_rfl) (by kernel_rfl)
noncomputable def gnInt:Ctx:={N:=260,np:=1,own:=at1 12 (true) (at1 21 (true) (at1 23 (true) (at1 39 (true) (at1 40 (true) (at1 42 (true) (fun _=>false)))))),plan:=at1 36 (some (.one 0 true (.one 2 true (.wch 1 (.one 3 false (.one 4 true (.one 5 false (.one 6 false (.one 7 true (.one 8 false (.done))))))))))) (at1 40 (some (.one 0 true (.one 2 true (.one 3 true (.one 4 true (.wch 1 (.one 5 false (.one 6 false (.one 7 false (.one 8 true (.one 9 false (.done)))))))))))) (at1 43 (some (.one 0 true (.one 3 true (.one 7 true (.one 10 true (.one 15 true (.one 17 true (.wch 1 (.wch 11 (.one 12 true (.one 13 true (.wch 14 (.wch 16 (.alt 2 (.one 4 false (.one 5 true (.wch 6 (.one 8 false (.one 9 true (.one 18 false (.one 19 true (.one 20 true (.one 21 false (.one 22 false (.one 23 true (.one 24 false (.done))))))))))))) (.alt 4 (.alt 2 (.one 5 true (.wch 6 (.one 8 false (.one 9 true (.one 18 false (.one 19 true (.one 20 true (.one 21 false (.one 22 false (.one 23 true (.one 24 false (.done)))))))))))) (.alt 8 (.one 9 true (.alt 2 (.one 5 true (.wch 6 (.one 18 false (.one 19 true (.one 20 true (.one 21 false (.one 22 false (.one 23 true (.one 24 false (.done)))))))))) (.alt 18 (.one 19 true (.one 2 false (.one 5 true (.one 6 true (.one 20 true (.one 21 false (.one 22 false (.one 23 true (.one 24 false (.done)))))))))) (.stop)))) (.stop))) (.stop)))))))))))))))) (at1 46 (some (.one 0 true (.one 2 true (.one 4 true (.one 8 true (.wch 1 (.wch 3 (.one 5 true (.one 6 true (.wch 7 (.one 9 false (.one 10 true (.one 11 true (.one 12 true (.one 13 true (.one 14 false (.one 15 false (.one 16 true (.one 17 false (.done)))))))))))))))))))) (fun _=>none)))),hints:=at1 2 ([.virtB 7 0 2,.virtB 7 1 2,.virtB 7 2 2]) (at1 6 ([.virtB 9 1 7]) (at1 16 ([.freezeB 9]) (at1 21 ([.virtB 14 1 7]) (at1 34 ([.freezeB 14]) (at1 37 ([.freezeB 7,.virtB 7 3 10]) (at1 41 ([.virtB 7 4 6,.virtB 7 5 5]) (fun _=>[]))))))),cut:=at1 13 (true) (at1 15 (true) (at1 31 (true) (at1 33 (true) (at1 37 (true) (at1 44 (true) (at1 47 (true) (fun _=>false)))))))}
noncomputable def bnInt:Code:=bdy Tryz.f11
abbrev ofnInt:=@ofC Tryz.prog gnInt 11 Tryz.f11 bnInt Tryz.func11 (by kernel_rfl) (by kernel_rfl) (by kernel_rfl) (by kernel_rfl)
theorem topOk_top{t:Tp}(g:GTop t):TopOk t:=by
 have h:GPla {t with pools:=[pool1]}:=⟨g.d1,g.d6,g.dv,g.l9,g.lk,g.e5,fun i e hi=>by
  obtain⟨h1,h2,h3,h4,h5,h6⟩:=g.ed i e hi
  exact⟨h1,h2,h3,h4,.inl ⟨h6,h5⟩⟩,.inl rfl,g.tol⟩
 have k:=topOk_pla h
 rcases g.pools with hp|hp|hp|hp
 ·exact⟨k.d0,k.d1,k.l1,k.e1,by rw[hp];decide,k.t0,k.t1,k.dev,k.link,k.edge,k.apart,fun i p hi=>by rw[hp]at hi;cases hi⟩
 all_goals exact topOk_pla ⟨g.d1,g.d6,g.dv,g.l9,g.lk,g.e5,h.ed,by simp[hp],g.tol⟩
theorem comp_top{t:Tp}(g:GTop t):compB t=true:=by
 simp only[compB,topB_true (topOk_top g),Bool.true_and,Bool.not_eq_true']
 rw[List.any_eq_false]
 intro e he
 obtain⟨i,hi⟩:=List.mem_iff_getElem?.1 he
 rw[(g.ed i e hi).pl];decide
end Go.Proofs.YtahhamfngafmcaaGreatDoor
