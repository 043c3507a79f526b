/- The generator: intents are valid. -/
import Derived.Test.YtahhamfngafmcaaGreatDoorM29
set_option linter.unusedVariables false
set_option linter.unusedSimpArgs false
set_option maxRecDepth 100000
set_option maxHeartbeats 4000000
namespace Go.Proofs.YtahhamfngafmcaaGreatDoor
open Go Go.Vm
def gN:List ByteArray:=[⟨#[103,49]⟩,⟨#[103,50]⟩,⟨#[103,51]⟩]
def sN:List ByteArray:=[⟨#[119,101,98]⟩,⟨#[115,115,104]⟩,⟨#[100,110,115]⟩]
theorem ix_strX{xs:List AV}{i:Nat}{K:AV->Prop}(L:List ByteArray)(n:Nat)(h:xs=L.map fun c=>.v (.string c))(hn:L.length=n)(hi:i<n)(hk:∀c,L[i]? =some c->K (.v (.string c))):Ix xs i K:=by
 subst h;subst hn
 exact ix_map (List.getElem?_eq_getElem hi) (hk _ (List.getElem?_eq_getElem hi))
theorem nameB_lit{s:ByteArray}(h:nmChk s.data.toList=true):nameB s=true:=by
 exact nameB_true (nameOk_data h)
theorem gN_ok:∀s,s∈gN->nameB s=true:=fun s hs=>nameB_lit ((show ∀s,s∈gN->nmChk s.data.toList=true by decide+kernel) s hs)
theorem sN_ok:∀s,s∈sN->nameB s=true:=fun s hs=>nameB_lit ((show ∀s,s∈sN->nmChk s.data.toList=true by decide+kernel) s hs)
theorem gN_ne:∀(j i:Nat) (x y:ByteArray),j<i->gN[j]? =some x->gN[i]? =some y->sEq x y=false:=by
 have h:∀j i:Fin 3,j.val<i.val->sEqD (gN.getD j.val default) (gN.getD i.val default)=false:=by decide+kernel
 intro j i x y hji hx hy
 have h1:=(List.getElem?_eq_some_iff.1 hx).1
 have h2:=(List.getElem?_eq_some_iff.1 hy).1
 have:=h ⟨j,h1⟩ ⟨i,h2⟩ hji
 simp only[List.getD,hx,hy,Option.getD_some]at this
 rw[sEq_data];exact this
theorem sN_ne:∀(j i:Nat) (x y:ByteArray),j<i->sN[j]? =some x->sN[i]? =some y->sEq x y=false:=by
 have h:∀j i:Fin 3,j.val<i.val->sEqD (sN.getD j.val default) (sN.getD i.val default)=false:=by decide+kernel
 intro j i x y hji hx hy
 have h1:=(List.getElem?_eq_some_iff.1 hx).1
 have h2:=(List.getElem?_eq_some_iff.1 hy).1
 have:=h ⟨j,h1⟩ ⟨i,h2⟩ hji
 simp only[List.getD,hx,hy,Option.getD_some]at this
 rw[sEq_data];exact this
structure GDs (N:List ByteArray) (l:List Df) (g:Bool):Prop where
 nm:∀(i:Nat) d,l[i]? =some d->N[i]? =some d.name
 it:∀d,d∈l->1<=d.items.length/\d.items.length<=2
 ok:∀d,d∈l->∀y,y∈d.items->itB y g=true
theorem gds_nil{N:List ByteArray}{g:Bool}:GDs N [] g:=⟨fun i d h=>by simp at h,fun d h=>by simp at h,fun d h=>by simp at h⟩
theorem gds_snoc{N:List ByteArray}{l:List Df}{g:Bool}(h:GDs N l g){c:ByteArray}{its:List It}(hc:N[l.length]? =some c)(h1:1<=its.length/\its.length<=2)(h2:∀y,y∈its->itB y g=true):GDs N (l++[⟨c,its⟩]) g where
 nm:=fun i d hd=>by
  rcases Nat.lt_or_ge i l.length with hlt|hge
  ·rw[List.getElem?_append_left hlt]at hd;exact h.nm i d hd
  ·rw[List.getElem?_append_right hge]at hd
   have:=(List.getElem?_eq_some_iff.1 hd).1
   simp only[List.length_cons,List.length_nil]at this
   have e:i=l.length:=by omega
   subst e
   simp only[Nat.sub_self,List.getElem?_cons_zero,Option.some.injEq]at hd
   subst hd;exact hc
 it:=fun d hd=>by
  rcases List.mem_append.1 hd with hd|hd
  ·exact h.it d hd
  ·rw[List.mem_singleton.1 hd];exact h1
 ok:=fun d hd=>by
  rcases List.mem_append.1 hd with hd|hd
  ·exact h.ok d hd
  ·rw[List.mem_singleton.1 hd];exact h2
theorem gds_names{N:List ByteArray}{l:List Df}{g:Bool}(h:GDs N l g)(hN:∀s,s∈N->nameB s=true):∀d,d∈l->nameB d.name=true:=fun d hd=>by
 obtain⟨i,hi⟩:=List.mem_iff_getElem?.1 hd
 exact hN _ (List.mem_of_getElem? (h.nm i d hi))
theorem gds_ok{N:List ByteArray}{l:List Df}{g:Bool}(h:GDs N l g)(hN:∀s,s∈N->nameB s=true)(hne:∀(j i:Nat) (x y:ByteArray),j<i->N[j]? =some x->N[i]? =some y->sEq x y=false)(hl:l.length<=32):DfsOk l g:=by
 refine⟨hl,fun i d hd=>⟨gds_names h hN d (List.mem_of_getElem? hd),?_,(h.it d (List.mem_of_getElem? hd)).1,Nat.le_trans (h.it d (List.mem_of_getElem? hd)).2 zd,h.ok d (List.mem_of_getElem? hd)⟩⟩
 unfold dfIx
 exact firstIx_at (p:=fun x=>sEq x.name d.name) hd (sEq_self _) fun j y hj hy=>hne j i _ _ hj (h.nm j y hy) (h.nm i d hd)
theorem itB_zone{z:ByteArray}(h:nameB z=true):itB ⟨1,z,noPf,0,zR⟩ true=true:=by simp[itB,h,itN,noPf,zR]
theorem itB_sub{q:Pf}(h:q.okP):itB ⟨2,⟨#[]⟩,q,0,zR⟩ true=true:=by
 have:=nil_self
 simp[itB,h,itP,zR,this]
theorem itB_name{z:ByteArray}{g:Bool}(h:nameB z=true):itB ⟨3,z,noPf,0,zR⟩ g=true:=by simp[itB,h,itN,noPf,zR]
theorem itB_svc{v:Int}{r:Rg}(h:prB v r=true):itB ⟨4,⟨#[]⟩,noPf,v,r⟩ false=true:=by
 have:=nil_self
 simp[itB,h,itS,noPf,this]
theorem pb_exB{raw:List Int}{L:Nat×List Pb->Prop}(a b c:Int)(d:ByteArray)(e f:Int)(q:Nat)(hL:L (q,[⟨a,b,c,d,e,f⟩]))(hR:q<=raw.length)(hB:pbB ⟨a,b,c,d,e,f⟩=true):∃g:Nat×List Pb,(g.1<=raw.length/\g.2.length<=1/\∀x,x∈g.2->pbB x=true)/\L g:=⟨_,⟨hR,by simp,fun x hx=>by rw[List.mem_singleton.1 hx];exact hB⟩,hL⟩
structure TpN (t:Tp):Prop where
 cls:∀d,d∈t.devs->optB d.cls=true
 zone:∀e,e∈t.edges->nameB e.zone=true
 edge:∀e,e∈t.edges->nameB e.name=true
structure ENt (i:Nt):Prop where
 gen:GNt i
 ok:NtOk i
 g:GDs gN i.grps true
 s:GDs sN i.svcs false
 g1:1<=i.grps.length
 w1:i.wins.length<=1
 t3:i.sts.length<=4
 p1:i.pubs.length<=1
 h1:i.hids.length<=1
theorem enInt(raw:List Int)(pos:Nat)(t:Tp)(hte:t.edges.length<=5)(htd:t.devs.length<=100)(htn:TpN t)(ns:Nat)(hns:ns<=4)(hp:pos<=raw.length)(hr:raw.length<=9223372036854775807){K:KT}
  (hK:∀(i:Nt) (pos':Nat),ENt i->pos'<=raw.length->K (encNt i) [tapeO raw pos']):
  ACall Tryz.prog 11 [.op 0 0,encT t,.v (.int .i64 ns)] [tapeO raw pos] K:=by
 refine ofnInt rfl rfl ?_
 (repeat' ((conv=>whnf);first|(with_reducible refine nNext raw _ _ zo zp hr fun m1 p1 hm1 hp1=>?_)|refine zG ?_|apply zA|(apply zI;intro h)|exact zT));(all_goals conv=>whnf)
 refine Lp.intro (Nat×Nat×List Df) (fun g=>⟨7,[(0,tapeO raw g.1),(1,boxT t),(2,nilNt),(3,.box [.os 4 2 0 g.2.2.length,.os 5 2 0 0,.os 6 2 0 0,.nils,.nils,.nils]),(4,.arr 2 (g.2.2.map encDf)),(5,.arr 2 []),(6,.arr 2 [])],[(0,.op 0 0),(2,.v (.int .i64 ns)),(4,.op 1 0),(6,.op 2 0),(7,.op 3 0),(8,.v (.int .i64 g.2.1))]⟩)
  (fun g=>g.1<=raw.length/\(g.2.1+g.2.2.length<=3/\1<=g.2.1+g.2.2.length)/\GDs gN g.2.2 true) (fun g=>g.2.1) (p1,m1+1,[]) ⟨hp1,by simp only[List.length_nil];omega,gds_nil⟩ ?_ ?_
 ·rw[show(((p1,m1+1,[]):Nat×Nat×List Df).2.1:Int)=1+(m1:Int)from by simp only;omega]
  (exact leA)
 rintro⟨p,k,gs⟩ ⟨h1,⟨h2,h2b⟩,h3⟩
 simp only at h1 h2 h2b h3⊢
 have hgnm:=gds_names h3 gN_ok
 rcases Nat.lt_or_ge 0 k with hk|hk
 ·obtain⟨k',rfl⟩:∃k',k=k'+1:=⟨k-1,by omega⟩
  have hk1:((k'+1:Nat):Int)-1=(k':Int):=by omega
  (repeat' ((conv=>whnf);first|(with_reducible first|refine nNext raw _ _ zo zp hr fun m1 p1 hm1 hp1=>?_|refine wr_i64 hk1 zo zo ?_|refine in_nat zo ?_|refine ix_strX gN 3 rfl rfl zo fun c hc=>?_)|refine zG ?_|apply zA|(apply zI;intro h)|exact zT));(all_goals conv=>whnf)
  refine Lp.intro (Nat×Nat×List It) (fun g=>⟨9,[(0,tapeO raw g.1),(1,boxT t),(2,nilNt),(3,.box [.os 4 2 0 gs.length,.os 5 2 0 0,.os 6 2 0 0,.nils,.nils,.nils]),(4,.arr 2 (gs.map encDf)),(5,.arr 2 []),(6,.arr 2 []),(7,.box [.v (.string c),.os 8 7 0 g.2.2.length]),(8,.arr 7 (g.2.2.map encIt))],[(0,.op 0 0),(2,.v (.int .i64 ns)),(4,.op 1 0),(6,.op 2 0),(7,.op 3 0),(8,.v (.int .i64 ((k'+1:Nat):Int))),(9,.op 7 0),(10,.v (.int .i64 g.2.1))]⟩)
   (fun g=>g.1<=raw.length/\(g.2.1+g.2.2.length<=2/\1<=g.2.1+g.2.2.length)/\∀y,y∈g.2.2->itB y true=true) (fun g=>g.2.1) (p1,m1+1,[]) ⟨by with_reducible assumption,by simp only[List.length_nil];omega,fun y h=>by simp at h⟩ ?_ ?_
  ·rw[show(((p1,m1+1,[]):Nat×Nat×List It).2.1:Int)=1+(m1:Int)from by simp only;omega]
   (exact leA)
  clear h1 p hm1 hp1 m1 p1
  rintro⟨p,m,its⟩ ⟨h1,⟨h4,h4b⟩,h9⟩
  simp only at h1 h4 h4b h9⊢
  rcases Nat.lt_or_ge 0 m with hm|hm
  ·obtain⟨m',rfl⟩:∃m',m=m'+1:=⟨m-1,by omega⟩
   have hm1:((m'+1:Nat):Int)-1=(m':Int):=by omega
   (repeat' ((conv=>whnf);first|(with_reducible refine enPref raw _ zw hr fun q p2 hqo hp2=>?_)|refine zG ?_|apply zA|(apply zI;intro h)|exact zT));(all_goals conv=>whnf)
   all_goals
    refine Jn.intro (It×Nat) (fun g=>⟨10,[(0,tapeO raw g.2),(1,boxT t),(2,nilNt),(3,.box [.os 4 2 0 gs.length,.os 5 2 0 0,.os 6 2 0 0,.nils,.nils,.nils]),(4,.arr 2 (gs.map encDf)),(5,.arr 2 []),(6,.arr 2 []),(7,.box [.v (.string c),.os 8 7 0 its.length]),(8,.arr 7 (its.map encIt)),(9,itBox g.1)],[(0,.op 0 0),(2,.v (.int .i64 ns)),(4,.op 1 0),(6,.op 2 0),(7,.op 3 0),(8,.v (.int .i64 ((k'+1:Nat):Int))),(9,.op 7 0),(10,.v (.int .i64 ((m'+1:Nat):Int))),(11,.op 9 0)]⟩) (fun g=>g.2<=raw.length/\itB g.1 true=true) ?_ ?_
    ·(repeat' ((conv=>whnf);first|(with_reducible first|refine nNext raw _ _ (by(try simp only[List.length_map]);omega) zw hr fun m1 p1 hm1 hp1=>?_|refine in_map (by(try simp only[List.length_map]at*);omega) ?_|refine ix_map_any (f:=encE) (by(try simp only[List.length_map]at*);omega) fun e he=>?_)|refine zG ?_|apply zA|(apply zI;intro h)|exact zT));(all_goals conv=>whnf)
     all_goals first
      |(refine⟨(⟨1,e.zone,noPf,0,zR⟩,p1),⟨zw,itB_zone (htn.zone e zw)⟩,?_⟩
        (exact leA)
        done)
      |(refine⟨(⟨2,⟨#[]⟩,q,0,zR⟩,p1),⟨zw,itB_sub hqo⟩,?_⟩
        (exact leA)
        done)
    rintro⟨y0,p4⟩ ⟨hp4,hy0⟩
    simp only at hp4 hy0⊢
    (repeat' ((conv=>whnf);first|refine zG ?_|apply zA|(apply zI;intro h)|exact zT));(all_goals conv=>whnf)
    all_goals
     refine Jn.intro (It×Nat) (fun g=>⟨10,[(0,tapeO raw g.2),(1,boxT t),(2,nilNt),(3,.box [.os 4 2 0 gs.length,.os 5 2 0 0,.os 6 2 0 0,.nils,.nils,.nils]),(4,.arr 2 (gs.map encDf)),(5,.arr 2 []),(6,.arr 2 []),(7,.box [.v (.string c),.os 8 7 0 its.length]),(8,.arr 7 (its.map encIt)),(9,itBox g.1)],[(0,.op 0 0),(2,.v (.int .i64 ns)),(4,.op 1 0),(6,.op 2 0),(7,.op 3 0),(8,.v (.int .i64 ((k'+1:Nat):Int))),(9,.op 7 0),(10,.v (.int .i64 ((m'+1:Nat):Int))),(11,.op 9 0)]⟩) (fun g=>g.2<=raw.length/\itB g.1 true=true) ?_ ?_
     ·(repeat' ((conv=>whnf);first|(with_reducible first|refine nNext raw _ _ (by(try simp only[List.length_map]);omega) zw hr fun m1 p1 hm1 hp1=>?_|refine In.intro 0 rfl (by(try simp only[List.length_map]at*);omega) ?_|refine ix_map_any (f:=encDf) (by(try simp only[List.length_map]at*);omega) fun d hd=>?_)|refine zG ?_|apply zA|(apply zI;intro h)|exact zT));(all_goals conv=>whnf)
      all_goals first
       |(refine⟨(⟨3,d.name,noPf,0,zR⟩,p1),⟨zw,itB_name (hgnm d zw)⟩,?_⟩
         (exact leA)
         done)
       |(refine⟨(y0,p1),⟨zw,hy0⟩,?_⟩
         (exact leA)
         done)
       |(refine⟨(y0,p4),⟨zw,hy0⟩,?_⟩
         (exact leA)
         done)
     rintro⟨y,p3⟩ ⟨hp3,hyv⟩
     simp only at hp3 hyv⊢
     (repeat' ((conv=>whnf);first|(with_reducible refine wr_i64 hm1 zo zo ?_)|refine zG ?_|apply zA|(apply zI;intro h)|exact zT));(all_goals conv=>whnf)
     refine⟨(p3,m',its++[y]),⟨hp3,by simp only[List.length_append,List.length_cons,List.length_nil];omega,fun z hz=>by
      rcases List.mem_append.1 hz with hz|hz
      ·exact h9 z hz
      ·rw[List.mem_singleton.1 hz];exact hyv⟩,by simp only;omega,?_⟩
     simp only[List.map_append,List.length_append,List.map_cons,List.map_nil,List.length_cons,List.length_nil]
     (exact leA)
  ·obtain rfl:m=0:=by omega
   (repeat' ((conv=>whnf);first|(with_reducible refine wr_i64 hk1 zo zo ?_)|refine zG ?_|apply zA|(apply zI;intro h)|exact zT));(all_goals conv=>whnf)
   refine⟨(p,k',gs++[⟨c,its⟩]),⟨h1,by simp only[List.length_append,List.length_cons,List.length_nil];omega,gds_snoc h3 (by rw[<-hc,Nat.zero_add]) zo h9⟩,by simp only;omega,?_⟩
   simp only[List.map_append,List.length_append,List.map_cons,List.map_nil,List.length_cons,List.length_nil]
   (exact leA)
 obtain rfl:k=0:=by omega
 clear hk
 (repeat' ((conv=>whnf);first|(with_reducible refine nNext raw _ _ zo zw hr fun m1 p1 hm1 hp1=>?_)|refine zG ?_|apply zA|(apply zI;intro h)|exact zT));(all_goals conv=>whnf)
 refine Lp.intro (Nat×Nat×List Df) (fun g=>⟨7,[(0,tapeO raw g.1),(1,boxT t),(2,nilNt),(3,.box [.os 4 2 0 gs.length,.os 5 2 0 g.2.2.length,.os 6 2 0 0,.nils,.nils,.nils]),(4,.arr 2 (gs.map encDf)),(5,.arr 2 (g.2.2.map encDf)),(6,.arr 2 [])],[(0,.op 0 0),(2,.v (.int .i64 ns)),(4,.op 1 0),(6,.op 2 0),(7,.op 3 0),(13,.v (.int .i64 g.2.1))]⟩)
  (fun g=>g.1<=raw.length/\g.2.1+g.2.2.length<=2/\GDs sN g.2.2 false/\∀d,d∈g.2.2->∀y,y∈d.items->SvcIt y) (fun g=>g.2.1) (p1,m1,[]) ⟨by with_reducible assumption,by simp only[List.length_nil];omega,gds_nil,fun d h=>by simp at h⟩ ?_ ?_
 ·(exact leA)
 clear h1 p hm1 hp1 m1 p1
 rintro⟨p,k,ss⟩ ⟨h1,h4,h5,h6⟩
 simp only at h1 h4 h5 h6⊢
 have hsnm:=gds_names h5 sN_ok
 rcases Nat.lt_or_ge 0 k with hk|hk
 ·obtain⟨k',rfl⟩:∃k',k=k'+1:=⟨k-1,by omega⟩
  have hk1:((k'+1:Nat):Int)-1=(k':Int):=by omega
  (repeat' ((conv=>whnf);first|(with_reducible first|refine nNext raw _ _ (by(try simp only[List.length_map]);omega) zw hr fun m1 p1 hm1 hp1=>?_|refine wr_i64 hk1 zo zo ?_|refine in_nat zo ?_|refine ix_strX sN 3 rfl rfl zo fun c hc=>?_)|refine zG ?_|apply zA|(apply zI;intro h)|exact zT));(all_goals conv=>whnf)
  refine Lp.intro (Nat×Nat×List It) (fun g=>⟨9,[(0,tapeO raw g.1),(1,boxT t),(2,nilNt),(3,.box [.os 4 2 0 gs.length,.os 5 2 0 ss.length,.os 6 2 0 0,.nils,.nils,.nils]),(4,.arr 2 (gs.map encDf)),(5,.arr 2 (ss.map encDf)),(6,.arr 2 []),(7,.box [.v (.string c),.os 8 7 0 g.2.2.length]),(8,.arr 7 (g.2.2.map encIt))],[(0,.op 0 0),(2,.v (.int .i64 ns)),(4,.op 1 0),(6,.op 2 0),(7,.op 3 0),(13,.v (.int .i64 ((k'+1:Nat):Int))),(14,.op 7 0),(15,.v (.int .i64 g.2.1))]⟩)
   (fun g=>g.1<=raw.length/\(g.2.1+g.2.2.length<=2/\1<=g.2.1+g.2.2.length)/\∀y,y∈g.2.2->SvcIt y/\itB y false=true) (fun g=>g.2.1) (p1,m1+1,[]) ⟨by with_reducible assumption,by simp only[List.length_nil];omega,fun y h=>by simp at h⟩ ?_ ?_
  ·rw[show(((p1,m1+1,[]):Nat×Nat×List It).2.1:Int)=1+(m1:Int)from by simp only;omega]
   (exact leA)
  clear h1 p hm1 hp1 m1 p1
  rintro⟨p,m,its⟩ ⟨h1,⟨h7,h7b⟩,h8⟩
  simp only at h1 h7 h7b h8⊢
  rcases Nat.lt_or_ge 0 m with hm|hm
  ·obtain⟨m',rfl⟩:∃m',m=m'+1:=⟨m-1,by omega⟩
   have hmm:((m'+1:Nat):Int)-1=(m':Int):=by omega
   (repeat' ((conv=>whnf);first|(with_reducible first|refine nNext raw _ _ (by(try simp only[List.length_map]);omega) zw hr fun m1 p1 hm1 hp1=>?_|refine in_nat zo ?_|refine ix_ints [6,17,6,1,50] 5 rfl rfl zo fun v hv=>?_)|refine zG ?_|apply zA|(apply zI;intro h)|exact zT));(all_goals conv=>whnf)
   simp only[List.mem_cons,List.not_mem_nil,or_false]at hv
   refine Jn.intro (It×Nat) (fun g=>⟨10,[(0,tapeO raw g.2),(1,boxT t),(2,nilNt),(3,.box [.os 4 2 0 gs.length,.os 5 2 0 ss.length,.os 6 2 0 0,.nils,.nils,.nils]),(4,.arr 2 (gs.map encDf)),(5,.arr 2 (ss.map encDf)),(6,.arr 2 []),(7,.box [.v (.string c),.os 8 7 0 its.length]),(8,.arr 7 (its.map encIt)),(9,itBox g.1)],[(0,.op 0 0),(2,.v (.int .i64 ns)),(4,.op 1 0),(6,.op 2 0),(7,.op 3 0),(13,.v (.int .i64 ((k'+1:Nat):Int))),(14,.op 7 0),(15,.v (.int .i64 ((m'+1:Nat):Int))),(16,.op 9 0)]⟩) (fun g=>g.2<=raw.length/\SvcIt g.1/\itB g.1 false=true) ?_ ?_
   ·(repeat' ((conv=>whnf);first|(with_reducible refine enRange raw _ 65535 zd zd zw hr fun r p2 hlo hhi hp2=>?_)|refine zG ?_|apply zA|(apply zI;intro h)|exact zT));(all_goals conv=>whnf)
    all_goals first
     |(refine⟨(⟨4,⟨#[]⟩,noPf,v,⟨8,8,by decide,by decide,by decide,by decide⟩⟩,p1),⟨by with_reducible assumption,.inr (.inr (.inl ⟨by simp only;omega,rfl,rfl⟩)),itB_svc (by rw[show v=1 by omega];rfl)⟩,?_⟩
       (exact leA)
       done)
     |(refine⟨(⟨4,⟨#[]⟩,noPf,v,r⟩,p2),⟨by with_reducible assumption,.inr (.inl (by simp only;omega)),itB_svc (by rw[prB,if_pos zo];exact decide_eq_true ⟨hlo,hhi⟩)⟩,?_⟩
       (exact leA)
       done)
     |(refine⟨(⟨4,⟨#[]⟩,noPf,v,zR⟩,p1),⟨by with_reducible assumption,.inr (.inr (.inr ⟨by simp only;omega,rfl,rfl⟩)),itB_svc (by rw[show v=50 by omega];rfl)⟩,?_⟩
       (exact leA)
       done)
     |trace_state
   rintro⟨y0,p4⟩ ⟨hp4,hy0⟩
   simp only at hp4 hy0⊢
   (repeat' ((conv=>whnf);first|refine zG ?_|apply zA|(apply zI;intro h)|exact zT));(all_goals conv=>whnf)
   refine Jn.intro (It×Nat) (fun g=>⟨10,[(0,tapeO raw g.2),(1,boxT t),(2,nilNt),(3,.box [.os 4 2 0 gs.length,.os 5 2 0 ss.length,.os 6 2 0 0,.nils,.nils,.nils]),(4,.arr 2 (gs.map encDf)),(5,.arr 2 (ss.map encDf)),(6,.arr 2 []),(7,.box [.v (.string c),.os 8 7 0 its.length]),(8,.arr 7 (its.map encIt)),(9,itBox g.1)],[(0,.op 0 0),(2,.v (.int .i64 ns)),(4,.op 1 0),(6,.op 2 0),(7,.op 3 0),(13,.v (.int .i64 ((k'+1:Nat):Int))),(14,.op 7 0),(15,.v (.int .i64 ((m'+1:Nat):Int))),(16,.op 9 0)]⟩) (fun g=>g.2<=raw.length/\SvcIt g.1/\itB g.1 false=true) ?_ ?_
   ·(repeat' ((conv=>whnf);first|(with_reducible first|refine nNext raw _ _ (by(try simp only[List.length_map]);omega) zw hr fun m1 p1 hm1 hp1=>?_|refine In.intro 0 rfl (by(try simp only[List.length_map]at*);omega) ?_|refine ix_map_any (f:=encDf) (by(try simp only[List.length_map]at*);omega) fun d hd=>?_)|refine zG ?_|apply zA|(apply zI;intro h)|exact zT));(all_goals conv=>whnf)
    all_goals first
     |(refine⟨(⟨3,d.name,noPf,0,zR⟩,p1),⟨by with_reducible assumption,.inl ⟨rfl,rfl,rfl,rfl⟩,itB_name (hsnm d zw)⟩,?_⟩
       (exact leA)
       done)
     |(refine⟨(y0,p1),⟨by with_reducible assumption,hy0⟩,?_⟩
       (exact leA)
       done)
     |(refine⟨(y0,p4),⟨by with_reducible assumption,hy0⟩,?_⟩
       (exact leA)
       done)
   rintro⟨y,p3⟩ ⟨hp3,hyv⟩
   simp only at hp3 hyv⊢
   (repeat' ((conv=>whnf);first|(with_reducible refine wr_i64 hmm zo zo ?_)|refine zG ?_|apply zA|(apply zI;intro h)|exact zT));(all_goals conv=>whnf)
   refine⟨(p3,m',its++[y]),⟨hp3,by simp only[List.length_append,List.length_cons,List.length_nil];omega,fun z hz=>by
    rcases List.mem_append.1 hz with hz|hz
    ·exact h8 z hz
    ·rw[List.mem_singleton.1 hz];exact hyv⟩,by simp only;omega,?_⟩
   simp only[List.map_append,List.length_append,List.map_cons,List.map_nil,List.length_cons,List.length_nil]
   (exact leA)
  ·obtain rfl:m=0:=by omega
   (repeat' ((conv=>whnf);first|(with_reducible refine wr_i64 hk1 zo zo ?_)|refine zG ?_|apply zA|(apply zI;intro h)|exact zT));(all_goals conv=>whnf)
   refine⟨(p,k',ss++[⟨c,its⟩]),⟨h1,by simp only[List.length_append,List.length_cons,List.length_nil];omega,gds_snoc h5 (by rw[<-hc,Nat.zero_add]) zo (fun y hy=>(h8 y hy).2),fun d hd=>by
    rcases List.mem_append.1 hd with hd|hd
    ·exact h6 d hd
    ·rw[List.mem_singleton.1 hd];exact fun y hy=>(h8 y hy).1⟩,by simp only;omega,?_⟩
   simp only[List.map_append,List.length_append,List.map_cons,List.map_nil,List.length_cons,List.length_nil]
   (exact leA)
 obtain rfl:k=0:=by omega
 clear hk
 (repeat' ((conv=>whnf);first|refine zG ?_|apply zA|(apply zI;intro h)|exact zT));(all_goals conv=>whnf)
 refine Jn.intro (Nat×List Wn) (fun g=>⟨7,[(0,tapeO raw g.1),(1,boxT t),(2,nilNt),(3,.box [.os 4 2 0 gs.length,.os 5 2 0 ss.length,.os 6 2 0 g.2.length,.nils,.nils,.nils]),(4,.arr 2 (gs.map encDf)),(5,.arr 2 (ss.map encDf)),(6,.arr 2 (g.2.map encWn))],[(0,.op 0 0),(2,.v (.int .i64 ns)),(4,.op 1 0),(6,.op 2 0),(7,.op 3 0)]⟩)
  (fun g=>g.1<=raw.length/\g.2.length<=1/\∀w,w∈g.2->w.name=⟨#[119,111,114,107]⟩/\WinOk w.act/\w.act.length<=16) ?_ ?_
 ·(repeat' ((conv=>whnf);first|(with_reducible first|refine nNext raw _ _ (by(try simp only[List.length_map]);omega) zw hr fun m1 p1 hm1 hp1=>?_|refine enWin raw _ zw hr fun rs p2 hrs hrl hp2=>?_)|refine zG ?_|apply zA|(apply zI;intro h)|exact zT));(all_goals conv=>whnf)
  all_goals first
   |(refine⟨(p2,[⟨⟨#[119,111,114,107]⟩,rs⟩]),⟨by with_reducible assumption,by simp,fun w hw=>by rw[List.mem_singleton.1 hw];exact⟨rfl,hrs,hrl⟩⟩,?_⟩
     (exact leA)
     done)
   |(refine⟨(p1,[]),⟨by with_reducible assumption,by simp,fun w hw=>by simp at hw⟩,?_⟩
     (exact leA)
     done)
   |trace_state
 rintro⟨p5,ws⟩ ⟨hp5,hw1,hw2⟩
 simp only at hp5 hw1 hw2⊢
 have hwnm:∀w,w∈ws->nameB w.name=true:=fun w hw=>by rw[(hw2 w hw).1];exact nameB_lit (by decide+kernel)
 (repeat' ((conv=>whnf);first|(with_reducible first|refine sl_full (List.length_map ..) ?_|refine nNext raw _ _ (by(try simp only[List.length_map]);omega) zw hr fun m1 p1 hm1 hp1=>?_)|refine zG ?_|apply zA|(apply zI;intro h)|exact zT));(all_goals conv=>whnf)
 refine Lp.intro (Nat×Nat×List Sm) (fun g=>⟨5,[(0,tapeO raw g.1),(1,boxT t),(2,nilNt),(3,.box [.lst (gs.map encDf),.lst (ss.map encDf),.lst (ws.map encWn),.os 4 10 0 g.2.2.length,.nils,.nils]),(4,.arr 10 (g.2.2.map encSm))],[(0,.op 0 0),(4,.op 1 0),(6,.op 2 0),(7,.op 3 0),(17,.v (.int .i64 g.2.1))]⟩)
  (fun g=>g.1<=raw.length/\g.2.1+g.2.2.length<=4/\∀x,x∈g.2.2->smB x=true) (fun g=>g.2.1) (p1,m1,[]) ⟨by with_reducible assumption,by simp only[List.length_nil];omega,fun x h=>by simp at h⟩ ?_ ?_
 ·(exact leA)
 clear h1 p hm1 hp1 m1 p1
 rintro⟨p,k,sts⟩ ⟨h1,h7,hst⟩
 simp only at h1 h7 hst⊢
 rcases Nat.lt_or_ge 0 k with hk|hk
 ·obtain⟨k',rfl⟩:∃k',k=k'+1:=⟨k-1,by omega⟩
  have hkk:((k'+1:Nat):Int)-1=(k':Int):=by omega
  (repeat' ((conv=>whnf);first|(with_reducible first|refine wr_i64 hkk zo zo ?_|refine enStm raw _ t htd gs ss ws sts zo zo zo zw hr htn.cls hgnm hsnm hwnm fun x p2 hxo hp2=>?_)|refine zG ?_|apply zA|(apply zI;intro h)|exact zT));(all_goals conv=>whnf)
  all_goals
   refine⟨(p2,k',sts++[x]),⟨by with_reducible assumption,by simp only[List.length_append,List.length_cons,List.length_nil];omega,fun z hz=>by
    rcases List.mem_append.1 hz with hz|hz
    ·exact hst z hz
    ·rw[List.mem_singleton.1 hz];exact hxo⟩,by simp only;omega,?_⟩
   simp only[List.map_append,List.length_append,List.map_cons,List.map_nil,List.length_cons,List.length_nil]
   (exact leA)
 obtain rfl:k=0:=by omega
 clear hk
 (repeat' ((conv=>whnf);first|refine zG ?_|apply zA|(apply zI;intro h)|exact zT));(all_goals conv=>whnf)
 refine Jn.intro (Nat×List Pb) (fun g=>⟨7,[(0,tapeO raw g.1),(1,boxT t),(2,nilNt),(3,.box [.lst (gs.map encDf),.lst (ss.map encDf),.lst (ws.map encWn),.os 4 10 0 sts.length,.os 5 6 0 g.2.length,.os 6 5 0 0]),(4,.arr 10 (sts.map encSm)),(5,.arr 6 (g.2.map encPb)),(6,.arr 5 [])],[(0,.op 0 0),(4,.op 1 0),(6,.op 2 0),(7,.op 3 0)]⟩) (fun g=>g.1<=raw.length/\g.2.length<=1/\∀x,x∈g.2->pbB x=true) ?_ ?_
 ·(repeat' ((conv=>whnf);first|(with_reducible first|refine nNext raw _ _ (by(try simp only[List.length_map]);omega) zw hr fun m1 p1 hm1 hp1=>?_|refine In.intro 1 rfl (by(try simp only[List.length_map]at*);omega) ?_|refine In.intro 0 rfl (by(try simp only[List.length_map]at*);omega) ?_|refine ix_map_any (f:=encE) (by(try simp only[List.length_map]at*);omega) fun e he=>?_|refine crOf _ ?_|refine in_nat zo ?_|refine ix_ints [6,17] 2 rfl rfl zo fun v hv=>?_|refine enNum raw _ 65535 zd zd zw hr fun a p2 a0 a1 hp2=>?_)|refine zG ?_|apply zA|(apply zI;intro h)|exact zT));(all_goals conv=>whnf)
  all_goals first
   |(refine⟨(p1,[]),⟨by with_reducible assumption,by simp,fun x h=>by simp at h⟩,?_⟩
     (exact leA)
     done)
   |(refine⟨(p,[]),⟨by with_reducible assumption,by simp,fun x h=>by simp at h⟩,?_⟩
     (exact leA)
     done)
   |(apply pb_exB
     ·(exact leA)
     ·with_reducible assumption
     ·have hnm:=htn.edge _ zw
      simp only[List.mem_cons,List.not_mem_nil,or_false]at hv
      simp only[pbB,ptB,hnm,Bool.and_true,Bool.and_eq_true,Bool.or_eq_true,decide_eq_true_eq]
      omega)
 rintro⟨p6,pbs⟩ ⟨hp6,hb1,hb2⟩
 simp only at hp6 hb1 hb2⊢
 (repeat' ((conv=>whnf);first|refine zG ?_|apply zA|(apply zI;intro h)|exact zT));(all_goals conv=>whnf)
 refine Jn.intro (Nat×List Hn) (fun g=>⟨7,[(0,tapeO raw g.1),(1,boxT t),(2,nilNt),(3,.box [.lst (gs.map encDf),.lst (ss.map encDf),.lst (ws.map encWn),.os 4 10 0 sts.length,.os 5 6 0 pbs.length,.os 6 5 0 g.2.length]),(4,.arr 10 (sts.map encSm)),(5,.arr 6 (pbs.map encPb)),(6,.arr 5 (g.2.map encHn))],[(0,.op 0 0),(4,.op 1 0),(6,.op 2 0),(7,.op 3 0)]⟩) (fun g=>g.1<=raw.length/\g.2.length<=1/\∀x,x∈g.2->hnB x=true) ?_ ?_
 ·(repeat' ((conv=>whnf);first|(with_reducible first|refine nNext raw _ _ (by(try simp only[List.length_map]);omega) zw hr fun m1 p1 hm1 hp1=>?_|refine in_map (by(try simp only[List.length_map]at*);omega) ?_|refine ix_map_any (f:=encE) (by(try simp only[List.length_map]at*);omega) fun e he=>?_)|refine zG ?_|apply zA|(apply zI;intro h)|exact zT));(all_goals conv=>whnf)
  all_goals first
   |(refine⟨(p1,[⟨⟨#[103,49]⟩,e.name,3325256705,⟨1024,1024+(m1:Int),by decide,by decide,by omega,by omega⟩⟩]),⟨by with_reducible assumption,by simp,fun x h=>by
      rw[List.mem_singleton.1 h]
      have hnm:=htn.edge e zw
      have hg1:nameB ⟨#[103,49]⟩=true:=nameB_lit (by decide+kernel)
      simp only[hnB,hnm,hg1,Bool.true_and,decide_eq_true_eq]
      omega⟩,?_⟩
     (exact leA)
     done)
   |(refine⟨(p1,[]),⟨by with_reducible assumption,by simp,fun x h=>by simp at h⟩,?_⟩
     (exact leA)
     done)
   |(refine⟨(p6,[]),⟨by with_reducible assumption,by simp,fun x h=>by simp at h⟩,?_⟩
     (exact leA)
     done)
 rintro⟨p7,hds⟩ ⟨hp7,hh1,hh2⟩
 simp only at hp7 hh1 hh2⊢
 (repeat' ((conv=>whnf);first|(with_reducible refine sl_full (List.length_map ..) ?_)|refine zG ?_|apply zA|(apply zI;intro h)|exact zT));(all_goals conv=>whnf)
 refine hK ⟨gs,ss,ws,sts,pbs,hds⟩ p7 ⟨⟨⟨⟨by simp only;omega,by simp only;omega,by simp only;omega,by simp only;omega,by simp only;omega,by simp only;omega,fun d hd=>Nat.le_trans (h3.it d hd).2 zd,fun d hd=>Nat.le_trans (h5.it d hd).2 zd,fun w hw=>?_⟩,by simp only;omega,by simp only;omega,fun d hd=>(h3.it d hd).2,fun d hd=>(h5.it d hd).2⟩,by simp only;omega,h6⟩,
  ⟨gds_ok h3 gN_ok gN_ne (by simp only;omega),gds_ok h5 sN_ok sN_ne (by simp only;omega),by simp only;omega,by simp only;omega,by simp only;omega,by simp only;omega,fun i x hx=>?_,hst,hb2,hh2⟩,h3,h5,by simp only;omega,by simp only;omega,by simp only;omega,by simp only;omega,by simp only;omega⟩ hp7
 ·exact Nat.le_trans (hw2 w hw).2.2 zd
 ·have hi:=(List.getElem?_eq_some_iff.1 hx).1
  obtain rfl:i=0:=by simp only at hi;omega
  refine⟨hwnm x (List.mem_of_getElem? hx),?_,(hw2 x (List.mem_of_getElem? hx)).2.1⟩
  unfold wnIx
  exact firstIx_at (p:=fun y=>sEq y.name x.name) hx (sEq_self _) fun j y hj _=>absurd hj (Nat.not_lt_zero _)
theorem tpn_top{t:Tp}(h:GTop t):TpN t where
 cls:=fun d hd=>by
  obtain⟨i,hi⟩:=List.mem_iff_getElem?.1 hd
  have hc:=(h.dv i d hi).cls
  have hl:∀s,s∈clL->sEqD s ⟨#[]⟩=true\/nmChk s.data.toList=true:=by decide+kernel
  unfold optB
  rw[Bool.or_eq_true]
  rcases hl _ hc with h1|h1
  ·exact .inl (by rw[sEq_data];exact h1)
  ·exact .inr (nameB_lit h1)
 zone:=fun e he=>by
  obtain⟨i,hi⟩:=List.mem_iff_getElem?.1 he
  have hz:=(h.ed i e hi).zone
  exact nameB_lit ((show ∀s,s∈zoL->nmChk s.data.toList=true by decide+kernel) _ hz)
 edge:=fun e he=>by
  obtain⟨i,hi⟩:=List.mem_iff_getElem?.1 he
  have hl:=(List.getElem?_eq_some_iff.1 hi).1
  have h5:=h.e5
  rw[(h.ed i e hi).name]
  exact nameB_lit ((show ∀j:Fin 5,nmChk (enL.getD j.val default).data.toList=true by decide+kernel) ⟨i,by omega⟩)
theorem sum_two(l:List Df)(h:∀d,d∈l->d.items.length<=2):itsN l<=2*l.length:=by
 unfold itsN
 induction l with
 |nil=>simp
 |cons d l ih=>
  have:=ih fun x hx=>h x (List.mem_cons_of_mem _ hx)
  have:=h d zx
  simp only[List.map_cons,List.sum_cons,List.length_cons];omega
theorem bnd_ent{i:Nt}(h:ENt i):Bnd i:=by
 have f:=h.gen.few
 have o:=h.ok
 have g3:=f.g3;have s3:=f.s3
 have a:=sum_two _ f.gi;have b:=sum_two _ f.si
 have c1:=o.wl;have c2:=o.tl;have c3:=o.pl;have c4:=o.hl
 exact⟨by omega,by omega,by omega,by omega,by omega,by omega,fun x hx=>Nat.le_trans (f.gi x hx) zd,fun x hx=>Nat.le_trans (f.si x hx) zd,f.sml.wi,by omega,by omega⟩
theorem setBlen{s:List Bx}(h:setB s=true):s.length<1000000000:=by have:=(setB_pset h).len;omega
theorem comp_edges{t:Tp}(hc:compB t=true):t.edges.length<=12:=(compB_iff.1 hc).1.e1
theorem crGrp(t:Tp)(hc:compB t=true)(i:Nt)(hb:Bnd i)(nm:ByteArray){K:KT}(hK:K (.tup [encRs (grpP t i nm).1,.v (.int .i64 (grpP t i nm).2)]) []):ACall Tryz.prog 46 [encT t,encNt i,.v (.string nm)] [] K:=by
 have h12:=comp_edges hc
 have hits:=hb.its
 refine cwGrp t zo i hb.g hb.gi nm (fun h=>?_) (fun h=>?_) fun h c hc hh hl=>?_
 ·have:=grpE_len (l:=i.grps) h12 h;omega
 ·rw[grpP,if_neg h]at hK;exact hK
 ·rw[grpP,if_pos h,canO_eq hc hh]at hK;exact hK
theorem grpP_len{t:Tp}(hc:compB t=true){i:Nt}(hb:Bnd i)(nm:ByteArray):(grpP t i nm).1.length<=860:=by
 have h12:=comp_edges hc
 have hits:=hb.its
 unfold grpP
 split
 ·rename_i h
  have:=grpE_len (l:=i.grps) h12 h
  have:=canO_len (grpE t i.grps nm).2
  simp only;omega
 ·exact Nat.zero_le _
theorem cwStS(l:List Df)(hl:l.length<=999)(hit:∀d,d∈l->d.items.length<=999)(nm:ByteArray){K:KT}
  (hK:K (.v (.int .i64 (svcF l nm).1)) [itO 2 (svcF l nm).2.length,.box [],arI (svcF l nm).2]):
  ACall Tryz.prog 86 [.lst (l.map encDf),.v (.string nm),.fn (.func 93) [] [.op 0 0]] [itO 1 0,.arr 7 []] K:=by
 refine ofwStS rfl rfl ?_
 unfold svcF at hK
 have hc:∀{K:KT},K (.v (.int .i64 (fol visS l (l.length+1) [] nm [] []).1)) [fsO l,.map (nameM l []),.map (nameM l (fol visS l (l.length+1) [] nm [] []).2.1),itO 5 (fol visS l (l.length+1) [] nm [] []).2.2.length,.box [],arI (fol visS l (l.length+1) [] nm [] []).2.2]->
   ACall Tryz.prog 144 [.op 0 0,.v (.string nm)] [fsO l,.map (fun _=>none),.map (fun _=>none),itO 4 0,.arr 7 []] K:=fun {K} h=>by
  rw[nameM_nil l]
  exact cwFos l hl hit (l.length+1) [] nm [] [] (fine_nil l) zx zx h
 (repeat' ((conv=>whnf);first|(with_reducible refine hc ?_)|refine zG ?_|apply zA|(apply zI;intro h)|exact zT));(all_goals conv=>whnf)
 exact hK
theorem svcF_len{l:List Df}{nm:ByteArray}(h:(svcF l nm).1=0):(svcF l nm).2.length<=itsN l:=by
 unfold svcF at h⊢
 have:=fol_all visS List.length 1 (fun x s _=>by simp[visS]) l nm [] h
 simp only[List.length_nil]at this
 simp only;omega
theorem svcGo_drop{x:It}{r:List It}{s:List Bx}:svcGo (x::r) s=if(combP anB initS [hdrX x]).2≠0 then([],(combP anB initS [hdrX x]).2)else if(combP orB s (combP anB initS [hdrX x]).1).2≠0 then([],(combP orB s (combP anB initS [hdrX x]).1).2)else svcGo r (combP orB s (combP anB initS [hdrX x]).1).1:=rfl
theorem crSvc(i:Nt)(hb:Bnd i)(nm:ByteArray){K:KT}(hK:K (.tup [encXs (svcP i nm).1,.v (.int .i64 (svcP i nm).2)]) []):ACall Tryz.prog 50 [encNt i,.v (.string nm)] [] K:=by
 refine ACall.weak (ofwSvc rfl rfl ?_)
 unfold svcP at hK
 by_cases hnm:sEq nm ⟨#[]⟩=true
 ·rw[if_pos hnm]at hK
  have hnm2:(nm.toList==(⟨#[]⟩:ByteArray).toList)=true:=hnm
  (repeat' ((conv=>whnf);first|(with_reducible refine cxInit ?_)|refine zG ?_|apply zA|(apply zI;intro h)|exact zT));(all_goals conv=>whnf)
  exact⟨_,Weak.refl,hK⟩
 ·rw[if_neg hnm]at hK
  have hnm2:(nm.toList==(⟨#[]⟩:ByteArray).toList)=false:=by simpa[sEq]using hnm
  have hc:=fun {K} h=>@cwStS i.svcs hb.s hb.si nm K h
  have hlen:=svcF_len (l:=i.svcs) (nm:=nm)
  have hsn:=hb.sits
  generalize svcF i.svcs nm=q at*
  obtain⟨qe,its⟩:=q
  simp only at hK hc hlen
  (repeat' ((conv=>whnf);first|(with_reducible refine hc ?_)|refine zG ?_|apply zA|(apply zI;intro h)|exact zT));(all_goals conv=>whnf)
  ·rw[if_neg zo]at hK
   have hlen:=hlen h
   refine Lp.intro (Nat×List Bx) (fun g=>⟨4,[],[(8,encXs g.2),(25,.lst (its.map encIt)),(26,.v (.int .i64 (its.map encIt).length)),(27,.v (.int .i64 g.1))]⟩) (fun g=>g.1<=its.length/\setB g.2=true/\svcGo its []=svcGo (its.drop g.1) g.2) (fun g=>its.length-g.1) (0,[]) ⟨Nat.zero_le _,setB_nil,by rw[List.drop_zero]⟩ ?_ ?_
   ·(exact leA)
   rintro⟨k,s⟩ ⟨hk,hs,heq⟩
   simp only at hk hs heq⊢
   have hsl:=setBlen hs
   rcases Nat.lt_or_ge k its.length with hkl|hkl
   ·obtain⟨x,hx⟩:=gex hkl
    have hd:its.drop k=x::its.drop (k+1):=by
     rw[List.getElem?_eq_getElem hkl]at hx
     rw[<-Option.some.inj hx,<-List.drop_eq_getElem_cons hkl]
    rw[hd,svcGo_drop]at heq
    have hq:∀{K:KT},K (.tup [encXs (combP anB initS [hdrX x]).1,.v (.int .i64 (combP anB initS [hdrX x]).2)]) []->ACall Tryz.prog 95 [encXs initS,.lst [.agg [.v (.int .u32 fullB.r0.lo),.v (.int .u32 fullB.r0.hi),.v (.int .u32 fullB.r1.lo),.v (.int .u32 fullB.r1.hi),.v (.int .u32 (wu x.proto)),.v (.int .u32 (wu x.proto)),.v (.int .u32 fullB.r3.lo),.v (.int .u32 fullB.r3.hi),.v (.int .u32 x.ports.lo),.v (.int .u32 x.ports.hi)]]] [] K:=fun {K} h=>@cxInt initS [hdrX x] zd zx K h
    have hsA:=setB_combP anB initS [hdrX x]
    have hsB:=setB_combP orB s (combP anB initS [hdrX x]).1
    have hu:=fun {K} h=>@cxUn s (combP anB initS [hdrX x]).1 zo (by have:=setBlen hsA;omega) K h
    generalize combP orB s (combP anB initS [hdrX x]).1=B at*
    generalize combP anB initS [hdrX x]=A at*
    obtain⟨As,Ae⟩:=A
    obtain⟨Bs,Be⟩:=B
    simp only at heq hsA hsB hu hq
    (repeat' ((conv=>whnf);first|(with_reducible first|refine in_map hkl ?_|refine ix_map hx ?_|refine cxFull ?_)|(refine in_c zd ?_)|(with_reducible first|refine wr_u32_eq ?_|refine cxInit ?_)|(refine sl_full (by rfl) ?_)|(with_reducible first|refine hq ?_|refine hu ?_)|refine zG ?_|apply zA|(apply zI;intro h)|exact zT));(all_goals conv=>whnf)
    all_goals first
     |(rw[if_neg (fun hn=>hn zw),if_neg (fun hn=>hn zw)]at heq
       refine⟨(k+1,Bs),⟨hkl,hsB,heq⟩,by simp only;omega,?_⟩
       simp only[Int.natCast_add,Int.natCast_one]
       (exact leA)
       done)
     |(rw[if_pos h]at heq
       rw[heq]at hK
       exact⟨_,Weak.tup2 Weak.nils Weak.refl,hK⟩)
     |(rw[if_neg (fun hn=>hn zw),if_pos h]at heq
       rw[heq]at hK
       exact⟨_,Weak.tup2 Weak.nils Weak.refl,hK⟩)
   ·rw[List.drop_of_length_le hkl]at heq
    rw[heq]at hK
    (repeat' ((conv=>whnf);first|refine zG ?_|apply zA|(apply zI;intro h)|exact zT));(all_goals conv=>whnf)
    exact⟨_,Weak.refl,hK⟩
  ·rw[if_pos zp]at hK
   exact⟨_,Weak.tup2 Weak.nils Weak.refl,hK⟩
theorem svcGo_set:∀(its:List It) (s:List Bx),setB s=true->setB (svcGo its s).1=true
 |[],s,h=>h
 |x::r,s,h=>by
  rw[svcGo_drop]
  split
  ·exact setB_nil
  ·split
   ·exact setB_nil
   ·exact svcGo_set r _ (setB_combP ..)
theorem svcP_set(i:Nt)(nm:ByteArray):setB (svcP i nm).1=true:=by
 unfold svcP
 split
 ·exact init_set
 ·split
  ·exact setB_nil
  ·exact svcGo_set _ _ setB_nil
theorem bwB_snoc(a:List Rg)(r:Rg)(b:List Rg):btwB (a++[r]) b=btwB a b++b.map fun s=>btwX r s:=by simp[btwB]
theorem bwB_len(b:List Rg):∀a:List Rg,(btwB a b).length=a.length*b.length
 |[]=>by simp[btwB]
 |r::a=>by
  have:=bwB_len b a
  simp only[btwB,List.flatMap_cons,List.length_append,List.length_map,List.length_cons,Nat.succ_mul]at*
  omega
theorem crBtw(a b:List Rg)(ha:a.length<=860)(hb:b.length<=860){K:KT}(hK:K (.tup [encXs (makeP (btwB a b)).1,.v (.int .i64 (makeP (btwB a b)).2)]) []):ACall Tryz.prog 122 [encRs a,encRs b] [] K:=by
 refine ofrBtw rfl rfl ?_
 (repeat' ((conv=>whnf);first|refine zG ?_|apply zA|(apply zI;intro h)|exact zT));(all_goals conv=>whnf)
 refine Lp.intro Nat (fun i=>⟨1,[(0,.arr 10 ((btwB (a.take i) b).map encX))],[(1,encRs b),(6,.os 0 10 0 (btwB (a.take i) b).length),(12,encRs a),(13,.v (.int .i64 (a.map encR).length)),(14,.v (.int .i64 i))]⟩) (fun i=>i<=a.length) (fun i=>a.length-i) 0 (Nat.zero_le _) ?_ ?_
 ·rw[List.take_zero,show btwB [] b=[]from rfl]
  (exact leA)
 intro i hi
 have hl:=bwB_len b (a.take i)
 have hm:(a.take i).length*b.length<=860*860:=Nat.mul_le_mul (by rw[List.length_take];omega) hb
 rcases Nat.lt_or_ge i a.length with hil|hil
 ·obtain⟨r,hr⟩:=gex hil
  have hs:btwB (a.take (i+1)) b=btwB (a.take i) b++b.map fun s=>btwX r s:=by rw[List.take_add_one,hr];exact bwB_snoc ..
  generalize btwB (a.take i) b=A at*
  (repeat' ((conv=>whnf);first|(with_reducible first|refine in_map hil ?_|refine ix_map hr ?_)|refine zG ?_|apply zA|(apply zI;intro h)|exact zT));(all_goals conv=>whnf)
  refine Lp.intro Nat (fun k=>⟨2,[(0,.arr 10 ((A++(b.take k).map fun s=>btwX r s).map encX)),(1,.box [.v (.int .u32 r.lo),.v (.int .u32 r.hi)])],[(1,encRs b),(6,.os 0 10 0 (A++(b.take k).map fun s=>btwX r s).length),(8,.op 1 0),(12,encRs a),(13,.v (.int .i64 (a.map encR).length)),(14,.v (.int .i64 i)),(18,encRs b),(19,.v (.int .i64 (b.map encR).length)),(20,.v (.int .i64 k))]⟩) (fun k=>k<=b.length) (fun k=>b.length-k) 0 (Nat.zero_le _) ?_ ?_
  ·rw[List.take_zero,List.map_nil,List.append_nil]
   (exact leA)
  intro k hk
  rcases Nat.lt_or_ge k b.length with hkl|hkl
  ·obtain⟨s,hs2⟩:=gex hkl
   have hap:(A++(b.take (k+1)).map fun s=>btwX r s)=(A++(b.take k).map fun s=>btwX r s)++[btwX r s]:=by rw[List.take_add_one,hs2];simp
   have hlen:(A++(b.take k).map fun s=>btwX r s).length<=1000000:=by rw[List.length_append,List.length_map,List.length_take];omega
   generalize hB:(A++(b.take (k+1)).map fun s=>btwX r s)=B at*
   generalize (A++(b.take k).map fun s=>btwX r s)=C at*
   (repeat' ((conv=>whnf);first|(with_reducible first|refine cxFull ?_|refine in_map hkl ?_|refine ix_map hs2 ?_)|(refine in_c zd ?_)|(refine sl_full (by rfl) ?_)|refine zG ?_|apply zA|(apply zI;intro h)|exact zT));(all_goals conv=>whnf)
   all_goals
    refine⟨k+1,hkl,by omega,?_⟩
    rw[hB,hap,List.map_append,List.length_append,Int.natCast_add k,Int.natCast_one]
    (exact leA)
  ·(repeat' ((conv=>whnf);first|refine zG ?_|apply zA|(apply zI;intro h)|exact zT));(all_goals conv=>whnf)
   have hke:k=b.length:=by omega
   rw[hke,List.take_length,<-hs]
   refine⟨i+1,hil,by omega,?_⟩
   rw[Int.natCast_add i,Int.natCast_one]
   (exact leA)
 ·have hie:i=a.length:=by omega
  have hbl:(btwB a b).length<1000000000:=by
   have:=Nat.mul_le_mul ha hb
   rw[bwB_len];omega
  rw[hie,List.take_length]
  have hfull:((btwB a b).map encX).length=(btwB a b).length:=List.length_map ..
  (repeat' ((conv=>whnf);first|(with_reducible first|refine sl_full hfull ?_|refine cxMake (btwB a b) hbl ?_)|refine zG ?_|apply zA|(apply zI;intro h)|exact zT));(all_goals conv=>whnf)
  exact hK
theorem crStm(t:Tp)(hc:compB t=true)(i:Nt)(hb:Bnd i)(s:Sm){K:KT}(hK:K (.tup [encXs (stmP t i s).1,.v (.int .i64 (stmP t i s).2)]) []):ACall Tryz.prog 67 [encT t,encNt i,encSm s] [] K:=by
 refine ACall.weak (ofrStm rfl rfl ?_)
 have hl:=fun nm=>grpP_len hc hb nm
 have hg:=fun(nm:ByteArray) {K:KT} h=>@crGrp t hc i hb nm K h
 unfold stmP at hK
 have l1:=hl s.frm;have l2:=hl s.to;have l4:=hl s.exF;have l5:=hl s.exT
 have g1:=fun {K} h=>@hg s.frm K h
 have g2:=fun {K} h=>@hg s.to K h
 have g4:=fun {K} h=>@hg s.exF K h
 have g5:=fun {K} h=>@hg s.exT K h
 have g3:=fun {K} h=>@crSvc i hb s.svc K h
 have s3:=svcP_set i s.svc
 generalize grpP t i s.frm=F at*
 generalize grpP t i s.to=G at*
 generalize grpP t i s.exF=O at*
 generalize grpP t i s.exT=N at*
 generalize svcP i s.svc=V at*
 obtain⟨Fs,Fe⟩:=F
 obtain⟨Gs,Ge⟩:=G
 obtain⟨Os,Oe⟩:=O
 obtain⟨Ns,Ne⟩:=N
 obtain⟨Vs,Ve⟩:=V
 simp only at l1 l2 l4 l5 g1 g2 g3 g4 g5 s3 hK
 (repeat' ((conv=>whnf);first|(with_reducible first|refine g1 ?_|refine g2 ?_|refine g3 ?_)|refine zG ?_|apply zA|(apply zI;intro h)|exact zT));(all_goals conv=>whnf)
 rotate_left
 ·rw[bindE_ok (x:=(Fs,Fe)) zw,bindE_ok (x:=(Gs,Ge)) zw,bindE_no (x:=(Vs,Ve)) h]at hK
  exact⟨_,Weak.tup2 Weak.nils Weak.refl,hK⟩
 ·rw[bindE_ok (x:=(Fs,Fe)) zw,bindE_no (x:=(Gs,Ge)) h]at hK
  exact⟨_,Weak.tup2 Weak.nils Weak.refl,hK⟩
 ·rw[bindE_no (x:=(Fs,Fe)) h]at hK
  exact⟨_,Weak.tup2 Weak.nils Weak.refl,hK⟩
 rw[bindE_ok (x:=(Fs,Fe)) zw,bindE_ok (x:=(Gs,Ge)) zw,bindE_ok (x:=(Vs,Ve)) h]at hK
 simp only at hK
 have hvl:=setBlen s3
 have b1:=fun {K} h=>@crBtw Fs Gs l1 l2 K h
 have sB:=setB_makeP (btwB Fs Gs)
 have i1:=fun {K} h=>@cxInt (makeP (btwB Fs Gs)).1 Vs (setBlen sB) hvl K h
 have sC:=setB_combP anB (makeP (btwB Fs Gs)).1 Vs
 have b2:=fun {K} h=>@crBtw Os Ns l4 l5 K h
 have sD:=setB_makeP (btwB Os Ns)
 have i2:=fun {K} h=>@cxSub (combP anB (makeP (btwB Fs Gs)).1 Vs).1 (makeP (btwB Os Ns)).1 (setBlen sC) (setBlen sD) K h
 by_cases hex:s.exc=true
 ·simp only[hex,if_true]at hK
  refine Jn.intro Unit (fun _=>⟨3,[(2,.box [.sb s.permit,.v (.string s.frm),.v (.string s.to),.v (.string s.svc),.sb s.exc,.v (.string s.exF),.v (.string s.exT),.v (.string s.cls),.v (.string s.dur),.v (.int .i64 s.pri)])],[(5,.op 2 0),(8,encRs Fs),(10,encRs Gs),(11,encXs Vs),(12,encRs Os),(13,encRs Ns)]⟩) (fun _=>Oe=0/\Ne=0) ?_ ?_
  ·(repeat' ((conv=>whnf);first|(with_reducible first|refine g4 ?_|refine g5 ?_)|refine zG ?_|apply zA|(apply zI;intro h)|exact zT));(all_goals conv=>whnf)
   all_goals first
    |(refine⟨(),⟨by with_reducible assumption,by with_reducible assumption⟩,?_⟩
      (exact leA)
      done)
    |(rw[bindE_no (x:=(Os,Oe)) h]at hK
      exact⟨_,Weak.tup2 Weak.nils Weak.refl,hK⟩)
    |(rw[bindE_ok (x:=(Os,Oe)) zw,bindE_no (x:=(Ns,Ne)) h]at hK
      exact⟨_,Weak.tup2 Weak.nils Weak.refl,hK⟩)
  rintro⟨⟩ ⟨h1,h2⟩
  rw[bindE_ok (x:=(Os,Oe)) h1,bindE_ok (x:=(Ns,Ne)) h2]at hK
  simp only at hK
  generalize makeP (btwB Fs Gs)=B at*
  generalize makeP (btwB Os Ns)=D at*
  generalize hC:combP anB B.1 Vs=C at*
  generalize hX:combP woB C.1 D.1=X at*
  obtain⟨Bs,Be⟩:=B
  obtain⟨Cs,Ce⟩:=C
  obtain⟨Ds,De⟩:=D
  obtain⟨Xs,Xe⟩:=X
  simp only at b1 i1 b2 i2 hK hC hX
  (repeat' ((conv=>whnf);first|(with_reducible first|refine b1 ?_|refine i1 ?_|refine b2 ?_|refine i2 ?_)|refine zG ?_|apply zA|(apply zI;intro h)|exact zT));(all_goals conv=>whnf)
  ·rw[bindE_ok (x:=(Bs,Be)) zw]at hK
   simp only[hC]at hK
   rw[if_neg (fun hh=>hh.elim (fun hn=>hn zw) (fun hn=>by cases hn)),bindE_ok (x:=(Ds,De)) h]at hK
   simp only[hX]at hK
   exact⟨_,Weak.refl,hK⟩
  ·rw[bindE_ok (x:=(Bs,Be)) zw]at hK
   simp only[hC]at hK
   rw[if_neg (fun hh=>hh.elim (fun hn=>hn zw) (fun hn=>by cases hn)),bindE_no (x:=(Ds,De)) h]at hK
   exact⟨_,Weak.tup2 Weak.nils Weak.refl,hK⟩
  ·rw[bindE_ok (x:=(Bs,Be)) zw]at hK
   simp only[hC]at hK
   rw[if_pos (.inl h)]at hK
   exact⟨_,Weak.refl,hK⟩
  ·rw[bindE_no (x:=(Bs,Be)) h]at hK
   exact⟨_,Weak.tup2 Weak.nils Weak.refl,hK⟩
 ·have hexf:s.exc=false:=by simpa using hex
  simp only[hexf,Bool.false_eq_true,if_false]at hK
  rw[bindE_ok (x:=(([]:List Rg),(0:Int))) rfl,bindE_ok (x:=(([]:List Rg),(0:Int))) rfl]at hK
  refine Jn.at ⟨3,[(2,.box [.sb s.permit,.v (.string s.frm),.v (.string s.to),.v (.string s.svc),.sb s.exc,.v (.string s.exF),.v (.string s.exT),.v (.string s.cls),.v (.string s.dur),.v (.int .i64 s.pri)])],[(5,.op 2 0),(8,encRs Fs),(10,encRs Gs),(11,encXs Vs)]⟩ ?_ ?_
  ·(repeat' ((conv=>whnf);first|refine zG ?_|apply zA|(apply zI;intro h)|exact zT));(all_goals conv=>whnf)
   refine⟨(),trivial,?_⟩
   (exact leA)
  simp only at hK
  generalize makeP (btwB Fs Gs)=B at*
  generalize hC:combP anB B.1 Vs=C at*
  obtain⟨Bs,Be⟩:=B
  obtain⟨Cs,Ce⟩:=C
  simp only at b1 i1 hK hC
  (repeat' ((conv=>whnf);first|(with_reducible first|refine b1 ?_|refine i1 ?_)|refine zG ?_|apply zA|(apply zI;intro h)|exact zT));(all_goals conv=>whnf)
  all_goals first
   |(rw[bindE_no (x:=(Bs,Be)) h]at hK
     exact⟨_,Weak.tup2 Weak.nils Weak.refl,hK⟩)
   |(rw[bindE_ok (x:=(Bs,Be)) zw]at hK
     simp only[hC,or_true,if_true,ite_self]at hK
     exact⟨_,Weak.refl,hK⟩)
   |trace_state
noncomputable def grpV(t:Tp)(i:Nt)(nm:ByteArray):List Rg×Int:=if compB t=true/\ntB i=true then grpP t i nm else([],1)
noncomputable def svcV(i:Nt)(nm:ByteArray):List Bx×Int:=if ntB i=true then svcP i nm else([],1)
noncomputable def stmV(t:Tp)(i:Nt)(n:Int):List Bx×Int:=
 if compB t=true/\ntB i=true then(if n<0\/(i.sts.length:Int)<=n then([],2)else match i.sts[n.toNat]? with
  |some s=>stmP t i s
  |none=>([],2))else([],1)
theorem crGroup(t:Tp)(ht:t.edges.length<1000000)(i:Nt)(hb:Bnd i)(nm:ByteArray){K:KT}(hK:K (.tup [encRs (grpV t i nm).1,.v (.int .i64 (grpV t i nm).2)]) []):ACall Tryz.prog 13 [encT t,encNt i,.v (.string nm)] [] K:=by
 refine ACall.weak (ofwGroup rfl rfl ?_)
 unfold grpV at hK
 by_cases hc:compB t=true
 ·have hg:=fun {K} h=>@crGrp t hc i hb nm K h
  (repeat' ((conv=>whnf);first|(with_reducible first|refine ctComp t ht ?_|refine ckNt i hb ?_|refine hg ?_)|refine zG ?_|apply zA|(apply zI;intro h)|exact zT));(all_goals conv=>whnf)
  all_goals first
   |(rw[if_pos ⟨hc,h⟩]at hK
     exact⟨_,Weak.refl,hK⟩)
   |(rw[if_neg (fun hh=>by rw[hh.2]at h;cases h)]at hK
     exact⟨_,Weak.tup2 Weak.nils Weak.refl,hK⟩)
   |trace_state
 ·have hcf:compB t=false:=by simpa using hc
  rw[if_neg (fun hh=>hc hh.1)]at hK
  (repeat' ((conv=>whnf);first|(with_reducible refine ctComp t ht ?_)|refine zG ?_|apply zA|(apply zI;intro h)|exact zT));(all_goals conv=>whnf)
  exact⟨_,Weak.tup2 Weak.nils Weak.refl,hK⟩
theorem crService(i:Nt)(hb:Bnd i)(nm:ByteArray){K:KT}(hK:K (.tup [encXs (svcV i nm).1,.v (.int .i64 (svcV i nm).2)]) []):ACall Tryz.prog 24 [encNt i,.v (.string nm)] [] K:=by
 refine ACall.weak (ofrService rfl rfl ?_)
 unfold svcV at hK
 (repeat' ((conv=>whnf);first|(with_reducible first|refine ckNt i hb ?_|refine crSvc i hb nm ?_)|refine zG ?_|apply zA|(apply zI;intro h)|exact zT));(all_goals conv=>whnf)
 all_goals first
  |(rw[if_pos h]at hK
    exact⟨_,Weak.refl,hK⟩)
  |(rw[if_neg (fun hh=>by rw[hh]at h;cases h)]at hK
    exact⟨_,Weak.tup2 Weak.nils Weak.refl,hK⟩)
  |trace_state
theorem crStatement(t:Tp)(ht:t.edges.length<1000000)(i:Nt)(hb:Bnd i)(n:Int){K:KT}(hK:K (.tup [encXs (stmV t i n).1,.v (.int .i64 (stmV t i n).2)]) []):ACall Tryz.prog 37 [encT t,encNt i,.v (.int .i64 n)] [] K:=by
 refine ACall.weak (ofrStmt rfl rfl ?_)
 unfold stmV at hK
 have bt:=hb.t
 by_cases hc:compB t=true
 ·by_cases hn:n<0\/(i.sts.length:Int)<=n
  ·rw[if_pos hn]at hK
   (repeat' ((conv=>whnf);first|(with_reducible first|refine ctComp t ht ?_|refine ckNt i hb ?_)|refine zG ?_|apply zA|(apply zI;intro h)|exact zT));(all_goals conv=>whnf)
   all_goals first
    |(rw[if_pos ⟨hc,zw⟩]at hK
      exact⟨_,Weak.tup2 Weak.nils Weak.refl,hK⟩)
    |(rw[if_neg (fun hh=>by rw[hh.2]at h;cases h)]at hK
      exact⟨_,Weak.tup2 Weak.nils Weak.refl,hK⟩)
    |(exfalso;simp only[List.length_map]at*;omega)
    |trace_state
  ·rw[if_neg hn]at hK
   obtain⟨k,rfl⟩:=Int.eq_ofNat_of_zero_le (show 0<=n by omega)
   have hkl:k<i.sts.length:=by omega
   obtain⟨s,hs⟩:=gex hkl
   simp only[Int.toNat_natCast,hs]at hK
   have hg:=fun {K} h=>@crStm t hc i hb s K h
   (repeat' ((conv=>whnf);first|(with_reducible first|refine ctComp t ht ?_|refine ckNt i hb ?_|refine in_map hkl ?_|refine ix_map hs ?_|refine hg ?_)|refine zG ?_|apply zA|(apply zI;intro h)|exact zT));(all_goals conv=>whnf)
   all_goals first
    |(rw[if_pos ⟨hc,zw⟩]at hK
      exact⟨_,Weak.refl,hK⟩)
    |(rw[if_neg (fun hh=>by rw[hh.2]at h;cases h)]at hK
      exact⟨_,Weak.tup2 Weak.nils Weak.refl,hK⟩)
    |(exfalso;simp only[List.length_map]at*;omega)
    |trace_state
 ·have hcf:compB t=false:=by simpa using hc
  rw[if_neg (fun hh=>hc hh.1)]at hK
  (repeat' ((conv=>whnf);first|(with_reducible refine ctComp t ht ?_)|refine zG ?_|apply zA|(apply zI;intro h)|exact zT));(all_goals conv=>whnf)
  exact⟨_,Weak.tup2 Weak.nils Weak.refl,hK⟩
noncomputable abbrev clSm(s:Sm):List AV:=[.sb s.permit,.v (.string s.frm),.v (.string s.to),.v (.string s.svc),.sb s.exc,.v (.string s.exF),.v (.string s.exT),.v (.string s.cls),.v (.string s.dur),.v (.int .i64 s.pri)]
theorem crNam1(d:Dv)(s:Sm){K:KT}(hK:K (.sb (sEq d.cls s.cls)) []):ACall Tryz.prog 148 [encD d,.fp (clSm s)] [] K:=by
 refine ofrNam1 rfl rfl ?_
 (repeat' ((conv=>whnf);first|refine zG ?_|apply zA|(apply zI;intro h)|exact zT));(all_goals conv=>whnf)
 exact hK
theorem crNam2(d:Wn)(s:Sm){K:KT}(hK:K (.sb (sEq d.name s.dur)) []):ACall Tryz.prog 150 [encWn d,.fp (clSm s)] [] K:=by
 refine ofrNam2 rfl rfl ?_
 (repeat' ((conv=>whnf);first|refine zG ?_|apply zA|(apply zI;intro h)|exact zT));(all_goals conv=>whnf)
 exact hK
theorem crAnD(l:List Dv)(s:Sm)(hl:l.length<1000000){K:KT}(hK:K (.sb (l.any fun d=>sEq d.cls s.cls)) []):
  ACall Tryz.prog 147 [.lst (l.map encD),.fn (.func 148) [] [.fp (clSm s)]] [] K:=by
 have hc:∀{K:KT},K (.v (.int .i64 (firstIx (fun d:Dv=>sEq d.cls s.cls) l))) []->ACall Tryz.prog 175 [.lst (l.map encD),.fn (.func 148) [] [.fp (clSm s)]] [] K:=fun h=>cixDev l _ _ (fun d=>sEq d.cls s.cls) (fun x K h=>crNam1 x s h) hl h
 refine ofrAnD rfl rfl ?_
 (repeat' ((conv=>whnf);first|(with_reducible refine hc ?_)|refine zG ?_|apply zA|(apply zI;intro h)|exact zT));(all_goals conv=>whnf)
 rw[<-first_any]at hK
 exact hK
theorem crAnW(l:List Wn)(s:Sm)(hl:l.length<1000000){K:KT}(hK:K (.sb (l.any fun d=>sEq d.name s.dur)) []):
  ACall Tryz.prog 149 [.lst (l.map encWn),.fn (.func 150) [] [.fp (clSm s)]] [] K:=by
 have hc:∀{K:KT},K (.v (.int .i64 (firstIx (fun d:Wn=>sEq d.name s.dur) l))) []->ACall Tryz.prog 137 [.lst (l.map encWn),.fn (.func 150) [] [.fp (clSm s)]] [] K:=fun h=>cixW l _ _ (fun d=>sEq d.name s.dur) (fun x K h=>crNam2 x s h) hl h
 refine ofrAnW rfl rfl ?_
 (repeat' ((conv=>whnf);first|(with_reducible refine hc ?_)|refine zG ?_|apply zA|(apply zI;intro h)|exact zT));(all_goals conv=>whnf)
 rw[<-first_any]at hK
 exact hK
theorem crNames(t:Tp)(ht:t.devs.length<1000000)(i:Nt)(hb:Bnd i)(s:Sm){K:KT}(hK:K (.v (.int .i64 (namE t i s))) []):ACall Tryz.prog 89 [encT t,encNt i,encSm s] [] K:=by
 have bw:=hb.w
 refine ofrNames rfl rfl ?_
 (repeat' ((conv=>whnf);first|(with_reducible first|refine crAnD t.devs s ht ?_|refine crAnW i.wins s zo ?_)|refine zG ?_|apply zA|(apply zI;intro h)|exact zT));(all_goals conv=>whnf)
 all_goals
  have e:∀b:ByteArray,sEq b ⟨#[]⟩=(b.toList==(⟨#[]⟩:ByteArray).toList):=fun _=>rfl
  unfold namE at hK
  rw[e,e]at hK
  simp_all
 all_goals first
  |exact hK
  |trace_state
theorem fstE_cons{α:Type}(f:α->Int)(x:α)(l:List α):fstE f (x::l)=if f x≠0 then f x else fstE f l:=rfl
noncomputable def chkV(t:Tp)(i:Nt):Int:=if compB t=true/\ntB i=true then chkP t i else 1
theorem chkP_eq(t:Tp)(i:Nt):chkP t i=
  if fstE (fun d:Df=>(grpP t i d.name).2) i.grps≠0 then fstE (fun d:Df=>(grpP t i d.name).2) i.grps else
  if fstE (fun d:Df=>(svcP i d.name).2) i.svcs≠0 then fstE (fun d:Df=>(svcP i d.name).2) i.svcs else
  if fstE (fun s:Sm=>if(stmP t i s).2≠0 then(stmP t i s).2 else namE t i s) i.sts≠0 then fstE (fun s:Sm=>if(stmP t i s).2≠0 then(stmP t i s).2 else namE t i s) i.sts else
  if fstE (fun p:Pb=>if edgeIx t.edges p.edge<0 then 5 else 0) i.pubs≠0 then fstE (fun p:Pb=>if edgeIx t.edges p.edge<0 then 5 else 0) i.pubs else
  fstE (fun h:Hn=>if edgeIx t.edges h.edge<0 then 5 else(grpP t i h.grp).2) i.hids:=rfl
theorem crCheck(t:Tp)(ht:t.edges.length<1000000)(hd:t.devs.length<1000000)(i:Nt)(hb:Bnd i){K:KT}(hK:K (.v (.int .i64 (chkV t i))) []):ACall Tryz.prog 47 [encT t,encNt i] [] K:=by
 have bg:=hb.g;have bs:=hb.s;have bt:=hb.t;have bp:=hb.p;have bh:=hb.h
 refine ofrCheck rfl rfl ?_
 unfold chkV at hK
 by_cases hc:compB t=true
 rotate_left
 ·have hcf:compB t=false:=by simpa using hc
  rw[if_neg (fun hh=>hc hh.1)]at hK
  (repeat' ((conv=>whnf);first|(with_reducible refine ctComp t ht ?_)|refine zG ?_|apply zA|(apply zI;intro h)|exact zT));(all_goals conv=>whnf)
  exact hK
 by_cases hn:ntB i=true
 rotate_left
 ·have hnf:ntB i=false:=by simpa using hn
  rw[if_neg (fun hh=>hn hh.2)]at hK
  (repeat' ((conv=>whnf);first|(with_reducible first|refine ctComp t ht ?_|refine ckNt i hb ?_)|refine zG ?_|apply zA|(apply zI;intro h)|exact zT));(all_goals conv=>whnf)
  exact hK
 rw[if_pos ⟨hc,hn⟩,chkP_eq]at hK
 have hg:=fun(nm:ByteArray) {K:KT} h=>@crGrp t hc i hb nm K h
 have hs:=fun(nm:ByteArray) {K:KT} h=>@crSvc i hb nm K h
 have hm:=fun(s:Sm) {K:KT} h=>@crStm t hc i hb s K h
 (repeat' ((conv=>whnf);first|(with_reducible first|refine ctComp t ht ?_|refine ckNt i hb ?_)|refine zG ?_|apply zA|(apply zI;intro h)|exact zT));(all_goals conv=>whnf)
 refine Lp.intro Nat (fun n=>⟨2,[(0,boxT t),(1,boxNt i)],[(2,.op 0 0),(3,.op 1 0),(33,.lst (i.grps.map encDf)),(34,.v (.int .i64 (i.grps.map encDf).length)),(35,.v (.int .i64 n))]⟩) (fun n=>n<=i.grps.length/\fstE (fun d:Df=>(grpP t i d.name).2) i.grps=fstE (fun d:Df=>(grpP t i d.name).2) (i.grps.drop n)) (fun n=>i.grps.length-n) 0 ⟨Nat.zero_le _,by rw[List.drop_zero]⟩ ?_ ?_
 ·(exact leA)
 intro n ⟨hn1,heq⟩
 rcases Nat.lt_or_ge n i.grps.length with hnl|hnl
 ·obtain⟨x,hx⟩:=gex hnl
  have hdr:i.grps.drop n=x::i.grps.drop (n+1):=by
   rw[List.getElem?_eq_getElem hnl]at hx
   rw[<-Option.some.inj hx,<-List.drop_eq_getElem_cons hnl]
  rw[hdr,fstE_cons]at heq
  have hgx:=fun {K} h=>@hg x.name K h
  generalize grpP t i x.name=G at*
  obtain⟨Gs,Ge⟩:=G
  simp only at heq hgx
  (repeat' ((conv=>whnf);first|(with_reducible first|refine in_map hnl ?_|refine ix_map hx ?_|refine hgx ?_)|refine zG ?_|apply zA|(apply zI;intro h)|exact zT));(all_goals conv=>whnf)
  all_goals first
   |(rw[if_neg (fun hh=>hh h)]at heq
     refine⟨n+1,⟨hnl,heq⟩,by omega,?_⟩
     rw[Int.natCast_add,Int.natCast_one]
     (exact leA)
     done)
   |(rw[if_pos h]at heq
     rw[heq,if_pos h]at hK
     exact hK)
   |trace_state
 rw[List.drop_of_length_le hnl]at heq
 have e0:fstE (fun d:Df=>(grpP t i d.name).2) i.grps=0:=heq
 clear heq
 (repeat' ((conv=>whnf);first|refine zG ?_|apply zA|(apply zI;intro h)|exact zT));(all_goals conv=>whnf)
 refine Lp.intro Nat (fun n=>⟨2,[(0,boxT t),(1,boxNt i)],[(2,.op 0 0),(3,.op 1 0),(52,.lst (i.svcs.map encDf)),(53,.v (.int .i64 (i.svcs.map encDf).length)),(54,.v (.int .i64 n))]⟩) (fun n=>n<=i.svcs.length/\fstE (fun d:Df=>(svcP i d.name).2) i.svcs=fstE (fun d:Df=>(svcP i d.name).2) (i.svcs.drop n)) (fun n=>i.svcs.length-n) 0 ⟨Nat.zero_le _,by rw[List.drop_zero]⟩ ?_ ?_
 ·(exact leA)
 intro n ⟨hn1,heq⟩
 rcases Nat.lt_or_ge n i.svcs.length with hnl|hnl
 ·obtain⟨x,hx⟩:=gex hnl
  have hdr:i.svcs.drop n=x::i.svcs.drop (n+1):=by
   rw[List.getElem?_eq_getElem hnl]at hx
   rw[<-Option.some.inj hx,<-List.drop_eq_getElem_cons hnl]
  rw[hdr,fstE_cons]at heq
  have hsx:=fun {K} h=>@hs x.name K h
  generalize svcP i x.name=G at*
  obtain⟨Gs,Ge⟩:=G
  simp only at heq hsx
  (repeat' ((conv=>whnf);first|(with_reducible first|refine in_map hnl ?_|refine ix_map hx ?_|refine hsx ?_)|refine zG ?_|apply zA|(apply zI;intro h)|exact zT));(all_goals conv=>whnf)
  all_goals first
   |(rw[if_neg (fun hh=>hh h)]at heq
     refine⟨n+1,⟨hnl,heq⟩,by omega,?_⟩
     rw[Int.natCast_add,Int.natCast_one]
     (exact leA)
     done)
   |(rw[if_pos h]at heq
     rw[if_neg (fun hh=>hh e0)]at hK
     rw[heq,if_pos h]at hK
     exact hK)
   |trace_state
 rw[List.drop_of_length_le hnl]at heq
 have e1:fstE (fun d:Df=>(svcP i d.name).2) i.svcs=0:=heq
 clear heq
 (repeat' ((conv=>whnf);first|refine zG ?_|apply zA|(apply zI;intro h)|exact zT));(all_goals conv=>whnf)
 refine Lp.intro Nat (fun n=>⟨2,[(0,boxT t),(1,boxNt i)],[(2,.op 0 0),(3,.op 1 0),(70,.lst (i.sts.map encSm)),(71,.v (.int .i64 (i.sts.map encSm).length)),(72,.v (.int .i64 n))]⟩) (fun n=>n<=i.sts.length/\fstE (fun s:Sm=>if(stmP t i s).2≠0 then(stmP t i s).2 else namE t i s) i.sts=fstE (fun s:Sm=>if(stmP t i s).2≠0 then(stmP t i s).2 else namE t i s) (i.sts.drop n)) (fun n=>i.sts.length-n) 0 ⟨Nat.zero_le _,by rw[List.drop_zero]⟩ ?_ ?_
 ·(exact leA)
 intro n ⟨hn1,heq⟩
 rcases Nat.lt_or_ge n i.sts.length with hnl|hnl
 ·obtain⟨x,hx⟩:=gex hnl
  have hdr:i.sts.drop n=x::i.sts.drop (n+1):=by
   rw[List.getElem?_eq_getElem hnl]at hx
   rw[<-Option.some.inj hx,<-List.drop_eq_getElem_cons hnl]
  rw[hdr,fstE_cons]at heq
  have hmx:=fun {K} h=>@hm x K h
  generalize stmP t i x=G at*
  obtain⟨Gs,Ge⟩:=G
  simp only at heq hmx
  (repeat' ((conv=>whnf);first|(with_reducible first|refine in_map hnl ?_|refine ix_map hx ?_|refine hmx ?_|refine crNames t hd i hb x ?_)|refine zG ?_|apply zA|(apply zI;intro h)|exact zT));(all_goals conv=>whnf)
  all_goals first
   |(rename_i hz
     rw[if_neg (show ¬(Ge≠0)from fun hh=>hh hz),if_neg (fun hh=>hh h)]at heq
     refine⟨n+1,⟨hnl,heq⟩,by omega,?_⟩
     rw[Int.natCast_add,Int.natCast_one]
     (exact leA)
     done)
   |(rw[if_pos h,if_pos h]at heq
     rw[if_neg (fun hh=>hh e0),if_neg (fun hh=>hh e1)]at hK
     rw[heq,if_pos h]at hK
     exact hK)
   |(rename_i hz
     rw[if_neg (show ¬(Ge≠0)from fun hh=>hh hz),if_pos h]at heq
     rw[if_neg (fun hh=>hh e0),if_neg (fun hh=>hh e1)]at hK
     rw[heq,if_pos h]at hK
     exact hK)
   |trace_state
 rw[List.drop_of_length_le hnl]at heq
 have e2:fstE (fun s:Sm=>if(stmP t i s).2≠0 then(stmP t i s).2 else namE t i s) i.sts=0:=heq
 clear heq
 (repeat' ((conv=>whnf);first|refine zG ?_|apply zA|(apply zI;intro h)|exact zT));(all_goals conv=>whnf)
 refine Lp.intro Nat (fun n=>⟨2,[(0,boxT t),(1,boxNt i)],[(2,.op 0 0),(3,.op 1 0),(95,.lst (i.pubs.map encPb)),(96,.v (.int .i64 (i.pubs.map encPb).length)),(97,.v (.int .i64 n))]⟩) (fun n=>n<=i.pubs.length/\fstE (fun p:Pb=>if edgeIx t.edges p.edge<0 then 5 else 0) i.pubs=fstE (fun p:Pb=>if edgeIx t.edges p.edge<0 then 5 else 0) (i.pubs.drop n)) (fun n=>i.pubs.length-n) 0 ⟨Nat.zero_le _,by rw[List.drop_zero]⟩ ?_ ?_
 ·(exact leA)
 intro n ⟨hn1,heq⟩
 rcases Nat.lt_or_ge n i.pubs.length with hnl|hnl
 ·obtain⟨x,hx⟩:=gex hnl
  have hdr:i.pubs.drop n=x::i.pubs.drop (n+1):=by
   rw[List.getElem?_eq_getElem hnl]at hx
   rw[<-Option.some.inj hx,<-List.drop_eq_getElem_cons hnl]
  rw[hdr,fstE_cons]at heq
  (repeat' ((conv=>whnf);first|(with_reducible first|refine in_map hnl ?_|refine ix_map hx ?_|refine ctEdge t _ ht ?_)|refine zG ?_|apply zA|(apply zI;intro h)|exact zT));(all_goals conv=>whnf)
  all_goals first
   |(rw[if_neg h,if_neg zd]at heq
     refine⟨n+1,⟨hnl,heq⟩,by omega,?_⟩
     rw[Int.natCast_add,Int.natCast_one]
     (exact leA)
     done)
   |(rw[if_pos h,if_pos zd]at heq
     rw[if_neg (fun hh=>hh e0),if_neg (fun hh=>hh e1),if_neg (fun hh=>hh e2)]at hK
     rw[heq,if_pos zd]at hK
     exact hK)
   |trace_state
 rw[List.drop_of_length_le hnl]at heq
 have e3:fstE (fun p:Pb=>if edgeIx t.edges p.edge<0 then 5 else 0) i.pubs=0:=heq
 clear heq
 (repeat' ((conv=>whnf);first|refine zG ?_|apply zA|(apply zI;intro h)|exact zT));(all_goals conv=>whnf)
 refine Lp.intro Nat (fun n=>⟨2,[(0,boxT t),(1,boxNt i)],[(2,.op 0 0),(3,.op 1 0),(108,.lst (i.hids.map encHn)),(109,.v (.int .i64 (i.hids.map encHn).length)),(110,.v (.int .i64 n))]⟩) (fun n=>n<=i.hids.length/\fstE (fun h:Hn=>if edgeIx t.edges h.edge<0 then 5 else(grpP t i h.grp).2) i.hids=fstE (fun h:Hn=>if edgeIx t.edges h.edge<0 then 5 else(grpP t i h.grp).2) (i.hids.drop n)) (fun n=>i.hids.length-n) 0 ⟨Nat.zero_le _,by rw[List.drop_zero]⟩ ?_ ?_
 ·(exact leA)
 intro n ⟨hn1,heq⟩
 rcases Nat.lt_or_ge n i.hids.length with hnl|hnl
 ·obtain⟨x,hx⟩:=gex hnl
  have hdr:i.hids.drop n=x::i.hids.drop (n+1):=by
   rw[List.getElem?_eq_getElem hnl]at hx
   rw[<-Option.some.inj hx,<-List.drop_eq_getElem_cons hnl]
  rw[hdr,fstE_cons]at heq
  have hgx:=fun {K} h=>@hg x.grp K h
  generalize grpP t i x.grp=G at*
  obtain⟨Gs,Ge⟩:=G
  simp only at heq hgx
  (repeat' ((conv=>whnf);first|(with_reducible first|refine in_map hnl ?_|refine ix_map hx ?_|refine ctEdge t _ ht ?_|refine hgx ?_)|refine zG ?_|apply zA|(apply zI;intro h)|exact zT));(all_goals conv=>whnf)
  all_goals first
   |(rename_i hz
     rw[if_neg hz,if_neg (fun hh=>hh h)]at heq
     refine⟨n+1,⟨hnl,heq⟩,by omega,?_⟩
     rw[Int.natCast_add,Int.natCast_one]
     (exact leA)
     done)
   |(rw[if_pos h,if_pos zd]at heq
     rw[if_neg (fun hh=>hh e0),if_neg (fun hh=>hh e1),if_neg (fun hh=>hh e2),if_neg (fun hh=>hh e3)]at hK
     rw[heq]at hK
     exact hK)
   |(rename_i hz
     rw[if_neg hz,if_pos h]at heq
     rw[if_neg (fun hh=>hh e0),if_neg (fun hh=>hh e1),if_neg (fun hh=>hh e2),if_neg (fun hh=>hh e3)]at hK
     rw[heq]at hK
     exact hK)
   |trace_state
 rw[List.drop_of_length_le hnl]at heq
 have e4:fstE (fun h:Hn=>if edgeIx t.edges h.edge<0 then 5 else(grpP t i h.grp).2) i.hids=0:=heq
 clear heq
 rw[if_neg (fun hh=>hh e0),if_neg (fun hh=>hh e1),if_neg (fun hh=>hh e2),if_neg (fun hh=>hh e3),e4]at hK
 (repeat' ((conv=>whnf);first|refine zG ?_|apply zA|(apply zI;intro h)|exact zT));(all_goals conv=>whnf)
 exact hK
theorem cwSub0{K:KT}(hK:K (encP pf0) []):ACall Tryz.prog 31 [.v (.int .i64 0)] [] K:=cnSub 0 zd hK
theorem cwSub4{K:KT}(hK:K (encP pf4) []):ACall Tryz.prog 31 [.v (.int .i64 4)] [] K:=cnSub 4 zd hK
theorem cwNet{K:KT}(hK:K (encT netR) []):ACall Tryz.prog 30 [] [] K:=by
 refine ACall.weak (ofl17Net rfl rfl ?_)
 (repeat' ((conv=>whnf);first|(refine cwSub0 ?_)|(refine cwSub4 ?_)|refine zG ?_|apply zA|(apply zI;intro h)|exact zT));(all_goals conv=>whnf)
 exact⟨encT netR,Weak.agg (ys:=[_,.lst [],_,.lst [],_]) ⟨Weak.refl,Weak.nils,Weak.refl,Weak.nils,Weak.refl,trivial⟩,hK⟩
theorem bnd_def{g s:List Df}(h1:g.length<=4)(h2:s.length<=4)(h3:∀x,x∈g->x.items.length<=4)(h4:∀x,x∈s->x.items.length<=4):Bnd (defI g s):=by
 have sum:∀l:List Df,(∀x,x∈l->x.items.length<=4)->itsN l<=4*l.length:=by
  intro l
  induction l with
  |nil=>intro _;exact Nat.zero_le _
  |cons x l ih=>
   intro h
   have:=ih fun y hy=>h y (List.mem_cons_of_mem _ hy)
   have:=h x zx
   unfold itsN at*
   simp only[List.map_cons,List.sum_cons,List.length_cons]
   omega
 have e1:=sum g h3
 have e2:=sum s h4
 exact⟨by show g.length<=999;omega,by show s.length<=999;omega,Nat.zero_le _,Nat.zero_le _,Nat.zero_le _,Nat.zero_le _,fun x hx=>by have:=h3 x hx;omega,fun x hx=>by have:=h4 x hx;omega,fun x hx=>by simp[defI]at hx,by show itsN g<=70;omega,by show itsN s<=70000;omega⟩
theorem netR_len:netR.edges.length<1000000:=by decide
theorem grp_netR{g s:List Df}(h:NtOk (defI g s))(hb:Bnd (defI g s))(nm:ByteArray){K:KT}(hK:K (.tup [encRs (grpP netR (defI g s) nm).1,.v (.int .i64 (grpP netR (defI g s) nm).2)]) []):ACall Tryz.prog 13 [encT netR,encNt (defI g s),.v (.string nm)] [] K:=
 crGroup netR netR_len (defI g s) hb nm (by rw[grpV,if_pos ⟨comp_netR,ntB_true h⟩];exact hK)
theorem svc_netR{g s:List Df}(h:NtOk (defI g s))(hb:Bnd (defI g s))(nm:ByteArray){K:KT}(hK:K (.tup [encXs (svcP (defI g s) nm).1,.v (.int .i64 (svcP (defI g s) nm).2)]) []):ACall Tryz.prog 24 [encNt (defI g s),.v (.string nm)] [] K:=
 crService (defI g s) hb nm (by rw[svcV,if_pos (ntB_true h)];exact hK)
theorem san_bnd:Bnd (defI sanG []):=bnd_def zd zd (fun x hx=>by
 simp only[sanG,List.mem_cons,List.not_mem_nil,or_false]at hx
 rcases hx with rfl|rfl|rfl<;>decide) (fun x hx=>by simp at hx)
theorem canO_one{r:Rg}(h:r.lo<=r.hi):canO (has [r])=[r]:=canO_eq ⟨fun s hs=>by rw[List.mem_singleton.1 hs];exact h,List.pairwise_singleton ..⟩ fun v=>rfl
theorem sanP_a:grpP netR (defI sanG []) (nmB 97)=([pf4.rg],0):=by
 have e:grpE netR (defI sanG []).grps (nmB 97)=(0,[pf4.rg]):=san_a
 rw[grpP,e,if_pos rfl,canO_one zd]
theorem sanP_b:grpP netR (defI sanG []) (nmB 98)=([pf4.rg],0):=by
 have e:grpE netR (defI sanG []).grps (nmB 98)=(0,[pf4.rg]):=san_b
 rw[grpP,e,if_pos rfl,canO_one zd]
theorem sanP_c:grpP netR (defI sanG []) (nmB 99)=([],8):=by
 have e:(grpE netR (defI sanG []).grps (nmB 99)).1=8:=san_c
 rw[grpP,e,if_neg zd]
theorem san_chk:chkP netR (defI sanG [])=8:=by
 have e:fstE (fun d:Df=>(grpP netR (defI sanG []) d.name).2) (defI sanG []).grps=8:=by
  show fstE (fun d:Df=>(grpP netR (defI sanG []) d.name).2) [⟨nmB 97,[itNm (nmB 98)]⟩,⟨nmB 98,[itZn ⟨#[100,109,122]⟩]⟩,⟨nmB 99,[itNm (nmB 99)]⟩]=8
  rw[fstE_cons,if_neg (by simp only[sanP_a];decide),fstE_cons,if_neg (by simp only[sanP_b];decide),fstE_cons,if_pos (by simp only[sanP_c];decide)]
  simp only[sanP_c]
 rw[chkP_eq,e,if_pos zd]
theorem cwSane{K:KT}(hK:K (.sb true) []):ACall Tryz.prog 19 [] [] K:=by
 have ga:∀{K:KT},K (.tup [encRs [pf4.rg],.v (.int .i64 0)]) []->ACall Tryz.prog 13 [encT netR,encNt (defI sanG []),.v (.string (nmB 97))] [] K:=fun h=>grp_netR san_ok san_bnd _ (by rw[sanP_a];exact h)
 have gc:∀{K:KT},K (.tup [.lst [],.v (.int .i64 8)]) []->ACall Tryz.prog 13 [encT netR,encNt (defI sanG []),.v (.string (nmB 99))] [] K:=fun h=>grp_netR san_ok san_bnd _ (by rw[sanP_c];exact h)
 have se:∀{K:KT},K (.tup [encXs initS,.v (.int .i64 0)]) []->ACall Tryz.prog 24 [encNt (defI sanG []),.v (.string ⟨#[]⟩)] [] K:=fun h=>svc_netR san_ok san_bnd _ (by rw[svcP,if_pos (by rw[sEq_data];rfl)];exact h)
 have ch:∀{K:KT},K (.v (.int .i64 8)) []->ACall Tryz.prog 47 [encT netR,encNt (defI sanG [])] [] K:=fun h=>crCheck netR netR_len zd _ san_bnd (by rw[chkV,if_pos ⟨comp_netR,ntB_true san_ok⟩,san_chk];exact h)
 refine ACall.bool (ofl17San rfl rfl ?_)
 (repeat' ((conv=>whnf);first|(with_reducible refine cwNet ?_)|(refine ga ?_)|(refine gc ?_)|(refine se ?_)|(refine ch ?_)|(refine in_c zd ?_)|(refine Ix.intro rfl ?_)|refine zG ?_|apply zA|(apply zI;intro h)|exact zT));(all_goals conv=>whnf)
 all_goals first
  |exact fin_s hK rfl
  |exact absurd rfl h
  |exact absurd zd h
end Go.Proofs.YtahhamfngafmcaaGreatDoor
