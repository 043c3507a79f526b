/- The generator: statements are valid. -/
import Derived.Test.YtbdikofefjljoaaGreatDoorK32
set_option linter.unusedVariables false
set_option linter.unusedSimpArgs false
set_option maxRecDepth 100000
set_option maxHeartbeats 4000000
namespace Go.Proofs.YtbdikofefjljoaaGreatDoor
open Go Go.Vm
theorem opt_nil:optB ⟨#[]⟩=true:=by unfold optB;rw[sEq_data];rfl
theorem opt_nm{s:ByteArray}(h:nameB s=true):optB s=true:=by unfold optB;rw[h,Bool.or_true]
theorem nil_self:sEq ⟨#[]⟩ ⟨#[]⟩=true:=sEq_self _
theorem enPickO(raw:List Int)(pos:Nat)(l:List Df)(hn:∀d,d∈l->nameB d.name=true)(hl:l.length<=1000)(hp:pos<=raw.length)(hr:raw.length<=9223372036854775807){K:KT}
  (hK:∀(s:ByteArray) (pos':Nat),optB s=true->pos'<=raw.length->K (.v (.string s)) [tapeO raw pos']):ACall Tryz.prog 190 [.op 0 0,.lst (l.map encDf)] [tapeO raw pos] K:=
 enPick raw pos l hl hp hr fun s p h hp=>hK s p (by
  rcases h with rfl|⟨d,hd,rfl⟩
  ·exact opt_nil
  ·exact opt_nm (hn d hd)) hp
theorem sm_1{p e:Bool}{f t s a b:ByteArray}(h1:optB f=true)(h2:optB t=true)(h3:optB s=true)(h4:e=true/\optB a=true/\optB b=true\/(a=⟨#[]⟩/\b=⟨#[]⟩)):smB ⟨p,f,t,s,e,a,b,⟨#[]⟩,⟨#[]⟩,0⟩=true:=by
 have hz:=opt_nil
 have hy:=nil_self
 rcases h4 with⟨rfl,h5,h6⟩|⟨rfl,rfl⟩<;>simp_all[smB]
theorem sm_cls{x:Sm}{c:ByteArray}(h:smB x=true)(hp:x.permit=true)(hc:optB c=true):smB ⟨x.permit,x.frm,x.to,x.svc,x.exc,x.exF,x.exT,c,x.dur,x.pri⟩=true:=by
 simp only[smB,Bool.and_eq_true,Bool.or_eq_true]at h⊢
 simp_all
theorem sm_dur{x:Sm}{c:ByteArray}(h:smB x=true)(hc:optB c=true):smB ⟨x.permit,x.frm,x.to,x.svc,x.exc,x.exF,x.exT,x.cls,c,x.pri⟩=true:=by
 simp only[smB,Bool.and_eq_true,Bool.or_eq_true]at h⊢
 simp_all
theorem sm_pri{x:Sm}{c:Int}(h:smB x=true)(h0:0<=c)(h1:c<=1000):smB ⟨x.permit,x.frm,x.to,x.svc,x.exc,x.exF,x.exT,x.cls,x.dur,c⟩=true:=by
 simp only[smB,Bool.and_eq_true,Bool.or_eq_true,decide_eq_true_eq]at h⊢
 simp_all
theorem sm_exB{raw:List Int}{L:Sm×Nat->Prop}(a:Bool)(b c d:ByteArray)(e:Bool)(f g:ByteArray)(q:Nat)(hL:L (⟨a,b,c,d,e,f,g,⟨#[]⟩,⟨#[]⟩,0⟩,q))(hR:q<=raw.length)(hB:smB ⟨a,b,c,d,e,f,g,⟨#[]⟩,⟨#[]⟩,0⟩=true):∃g:Sm×Nat,(g.2<=raw.length/\smB g.1=true)/\L g:=⟨_,⟨hR,hB⟩,hL⟩
theorem enStm(raw:List Int)(pos:Nat)(t:Tp)(htd:t.devs.length<=100)(gs ss:List Df)(ws:List Wn)(sts:List Sm)(hg:gs.length<=1000)(hs:ss.length<=1000)(hw:ws.length<=1000)(hp:pos<=raw.length)(hr:raw.length<=9223372036854775807){K:KT}
  (hcl:∀d,d∈t.devs->optB d.cls=true)(hgn:∀d,d∈gs->nameB d.name=true)(hsn:∀d,d∈ss->nameB d.name=true)(hwn:∀d,d∈ws->nameB d.name=true)
  (hK:∀(s:Sm) (pos':Nat),smB s=true->pos'<=raw.length->K (encSm s) [tapeO raw pos',.arr 10 (sts.map encSm)]):
  ACall Tryz.prog 108 [.op 0 0,encT t,.agg [.lst (gs.map encDf),.lst (ss.map encDf),.lst (ws.map encWn),.os 1 10 0 sts.length,.nils,.nils]] [tapeO raw pos,.arr 10 (sts.map encSm)] K:=by
 refine ofnStm rfl rfl ?_
 (repeat' ((conv=>whnf);first|(with_reducible first|refine nNext raw _ _ zo zp hr fun m1 p1 hm1 hp1=>?_|refine enPickO raw _ gs hgn hg zp hr fun s p2 hso hp2=>?_|refine enPickO raw _ ss hsn hs zp hr fun s p2 hso hp2=>?_)|refine zG ?_|apply zA|(apply zI;intro h)|exact zT));(all_goals conv=>whnf)
 all_goals
  refine Jn.intro (Sm×Nat) (fun g=>⟨6,[(0,tapeO raw g.2),(1,.arr 10 (sts.map encSm)),(2,boxT t),(3,.box [.lst (gs.map encDf),.lst (ss.map encDf),.lst (ws.map encWn),.os 1 10 0 sts.length,.nils,.nils]),(4,smBox sm0),(5,smBox g.1)],[(0,.op 0 0),(4,.op 2 0),(5,.op 3 0),(6,.op 4 0),(7,.op 5 0)]⟩) (fun g=>g.2<=raw.length/\smB g.1=true) ?_ ?_
  ·(repeat' ((conv=>whnf);first|(with_reducible first|refine nNext raw _ _ zo zp hr fun m1 p1 hm1 hp1=>?_|refine enPickO raw _ gs hgn hg zp hr fun s p2 hso hp2=>?_|refine enPickO raw _ ss hsn hs zp hr fun s p2 hso hp2=>?_)|refine zG ?_|apply zA|(apply zI;intro h)|exact zT));(all_goals conv=>whnf)
   all_goals
    apply sm_exB
    ·(exact leA)
    ·with_reducible assumption
    ·exact sm_1 zw zw zw (by first|exact .inr ⟨rfl,rfl⟩|exact .inl ⟨rfl,by with_reducible assumption,by with_reducible assumption⟩)
  rintro⟨x,q⟩ ⟨hq,hx⟩
  simp only at hq hx⊢
  (repeat' ((conv=>whnf);first|refine zG ?_|apply zA|(apply zI;intro h)|exact zT));(all_goals conv=>whnf)
  refine Jn.intro (Sm×Nat) (fun g=>⟨6,[(0,tapeO raw g.2),(1,.arr 10 (sts.map encSm)),(2,boxT t),(3,.box [.lst (gs.map encDf),.lst (ss.map encDf),.lst (ws.map encWn),.os 1 10 0 sts.length,.nils,.nils]),(4,smBox sm0),(5,smBox g.1)],[(0,.op 0 0),(4,.op 2 0),(5,.op 3 0),(6,.op 4 0),(7,.op 5 0)]⟩) (fun g=>g.2<=raw.length/\smB g.1=true) ?_ ?_
  ·(repeat' ((conv=>whnf);first|(with_reducible first|refine nNext raw _ _ (by(try simp only[List.length_map]);omega) zw hr fun m1 p1 hm1 hp1=>?_|refine in_map (by simp only[List.length_map]at*;omega) ?_|refine ix_map_any (by simp only[List.length_map]at*;omega) fun r hrm=>?_)|refine zG ?_|apply zA|(apply zI;intro h)|exact zT));(all_goals conv=>whnf)
   all_goals first
    |(refine⟨(⟨x.permit,x.frm,x.to,x.svc,x.exc,x.exF,x.exT,r.cls,x.dur,x.pri⟩,p1),⟨zw,sm_cls hx zw (hcl r zw)⟩,?_⟩
      (exact leA)
      done)
    |(refine⟨(x,p1),⟨zw,hx⟩,?_⟩
      (exact leA)
      done)
    |(refine⟨(x,q),⟨zw,hx⟩,?_⟩
      (exact leA)
      done)
  clear hq hx q x
  rintro⟨x,q⟩ ⟨hq,hx⟩
  simp only at hq hx⊢
  (repeat' ((conv=>whnf);first|refine zG ?_|apply zA|(apply zI;intro h)|exact zT));(all_goals conv=>whnf)
  refine Jn.intro (Sm×Nat) (fun g=>⟨6,[(0,tapeO raw g.2),(1,.arr 10 (sts.map encSm)),(2,boxT t),(3,.box [.lst (gs.map encDf),.lst (ss.map encDf),.lst (ws.map encWn),.os 1 10 0 sts.length,.nils,.nils]),(4,smBox sm0),(5,smBox g.1)],[(0,.op 0 0),(4,.op 2 0),(5,.op 3 0),(6,.op 4 0),(7,.op 5 0)]⟩) (fun g=>g.2<=raw.length/\smB g.1=true) ?_ ?_
  ·(repeat' ((conv=>whnf);first|(with_reducible first|refine nNext raw _ _ (by(try simp only[List.length_map]);omega) zw hr fun m1 p1 hm1 hp1=>?_|refine in_map (by simp only[List.length_map]at*;omega) ?_|refine ix_map_any (by simp only[List.length_map]at*;omega) fun r hrm=>?_)|refine zG ?_|apply zA|(apply zI;intro h)|exact zT));(all_goals conv=>whnf)
   all_goals first
    |(refine⟨(⟨x.permit,x.frm,x.to,x.svc,x.exc,x.exF,x.exT,x.cls,r.name,x.pri⟩,p1),⟨zw,sm_dur hx (opt_nm (hwn r zw))⟩,?_⟩
      (exact leA)
      done)
    |(refine⟨(x,p1),⟨zw,hx⟩,?_⟩
      (exact leA)
      done)
    |(refine⟨(x,q),⟨zw,hx⟩,?_⟩
      (exact leA)
      done)
  clear hq hx q x
  rintro⟨x,q⟩ ⟨hq,hx⟩
  simp only at hq hx⊢
  (repeat' ((conv=>whnf);first|(with_reducible first|refine nNext raw _ _ zo zw hr fun m1 p1 hm1 hp1=>?_|refine in_nat zo ?_|refine ix_ints [0,0,1,5,1000] 5 rfl rfl zo fun c hc=>?_)|refine zG ?_|apply zA|(apply zI;intro h)|exact zT));(all_goals conv=>whnf)
  have hc2:0<=c/\c<=1000:=(show ∀c:Int,c∈[0,0,1,5,1000]->0<=c/\c<=1000 by decide) c hc
  exact hK ⟨x.permit,x.frm,x.to,x.svc,x.exc,x.exF,x.exT,x.cls,x.dur,c⟩ _ (sm_pri hx hc2.1 hc2.2) zw
def gN:List ByteArray:=[⟨#[103,49]⟩,⟨#[103,50]⟩,⟨#[103,51]⟩]
def sN:List ByteArray:=[⟨#[119,101,98]⟩,⟨#[115,115,104]⟩,⟨#[100,110,115]⟩]
theorem ix_strX{xs:List AV}{i:Nat}{K:AV->Prop}(L:List ByteArray)(n:Nat)(h:xs=L.map fun c=>.v (.string c))(hn:L.length=n)(hi:i<n)(hk:∀c,L[i]? =some c->K (.v (.string c))):Ix xs i K:=by
 subst h;subst hn
 exact ix_map (List.getElem?_eq_getElem hi) (hk _ (List.getElem?_eq_getElem hi))
theorem nameB_lit{s:ByteArray}(h:nmChk s.data.toList=true):nameB s=true:=by
 exact nameB_true (nameOk_data h)
theorem gN_ok:∀s,s∈gN->nameB s=true:=fun s hs=>nameB_lit ((show ∀s,s∈gN->nmChk s.data.toList=true by decide+kernel) s hs)
theorem sN_ok:∀s,s∈sN->nameB s=true:=fun s hs=>nameB_lit ((show ∀s,s∈sN->nmChk s.data.toList=true by decide+kernel) s hs)
theorem gN_ne:∀(j i:Nat) (x y:ByteArray),j<i->gN[j]? =some x->gN[i]? =some y->sEq x y=false:=by
 have h:∀j i:Fin 3,j.val<i.val->sEqD (gN.getD j.val default) (gN.getD i.val default)=false:=by decide+kernel
 intro j i x y hji hx hy
 have h1:=(List.getElem?_eq_some_iff.1 hx).1
 have h2:=(List.getElem?_eq_some_iff.1 hy).1
 have:=h ⟨j,h1⟩ ⟨i,h2⟩ hji
 simp only[List.getD,hx,hy,Option.getD_some]at this
 rw[sEq_data];exact this
theorem sN_ne:∀(j i:Nat) (x y:ByteArray),j<i->sN[j]? =some x->sN[i]? =some y->sEq x y=false:=by
 have h:∀j i:Fin 3,j.val<i.val->sEqD (sN.getD j.val default) (sN.getD i.val default)=false:=by decide+kernel
 intro j i x y hji hx hy
 have h1:=(List.getElem?_eq_some_iff.1 hx).1
 have h2:=(List.getElem?_eq_some_iff.1 hy).1
 have:=h ⟨j,h1⟩ ⟨i,h2⟩ hji
 simp only[List.getD,hx,hy,Option.getD_some]at this
 rw[sEq_data];exact this
structure GDs (N:List ByteArray) (l:List Df) (g:Bool):Prop where
 nm:∀(i:Nat) d,l[i]? =some d->N[i]? =some d.name
 it:∀d,d∈l->1<=d.items.length/\d.items.length<=2
 ok:∀d,d∈l->∀y,y∈d.items->itB y g=true
theorem gds_nil{N:List ByteArray}{g:Bool}:GDs N [] g:=⟨fun i d h=>by simp at h,fun d h=>by simp at h,fun d h=>by simp at h⟩
theorem gds_snoc{N:List ByteArray}{l:List Df}{g:Bool}(h:GDs N l g){c:ByteArray}{its:List It}(hc:N[l.length]? =some c)(h1:1<=its.length/\its.length<=2)(h2:∀y,y∈its->itB y g=true):GDs N (l++[⟨c,its⟩]) g where
 nm:=fun i d hd=>by
  rcases Nat.lt_or_ge i l.length with hlt|hge
  ·rw[List.getElem?_append_left hlt]at hd;exact h.nm i d hd
  ·rw[List.getElem?_append_right hge]at hd
   have:=(List.getElem?_eq_some_iff.1 hd).1
   simp only[List.length_cons,List.length_nil]at this
   have e:i=l.length:=by omega
   subst e
   simp only[Nat.sub_self,List.getElem?_cons_zero,Option.some.injEq]at hd
   subst hd;exact hc
 it:=fun d hd=>by
  rcases List.mem_append.1 hd with hd|hd
  ·exact h.it d hd
  ·rw[List.mem_singleton.1 hd];exact h1
 ok:=fun d hd=>by
  rcases List.mem_append.1 hd with hd|hd
  ·exact h.ok d hd
  ·rw[List.mem_singleton.1 hd];exact h2
theorem gds_names{N:List ByteArray}{l:List Df}{g:Bool}(h:GDs N l g)(hN:∀s,s∈N->nameB s=true):∀d,d∈l->nameB d.name=true:=fun d hd=>by
 obtain⟨i,hi⟩:=List.mem_iff_getElem?.1 hd
 exact hN _ (List.mem_of_getElem? (h.nm i d hi))
theorem gds_ok{N:List ByteArray}{l:List Df}{g:Bool}(h:GDs N l g)(hN:∀s,s∈N->nameB s=true)(hne:∀(j i:Nat) (x y:ByteArray),j<i->N[j]? =some x->N[i]? =some y->sEq x y=false)(hl:l.length<=32):DfsOk l g:=by
 refine⟨hl,fun i d hd=>⟨gds_names h hN d (List.mem_of_getElem? hd),?_,(h.it d (List.mem_of_getElem? hd)).1,Nat.le_trans (h.it d (List.mem_of_getElem? hd)).2 zd,h.ok d (List.mem_of_getElem? hd)⟩⟩
 unfold dfIx
 exact firstIx_at (p:=fun x=>sEq x.name d.name) hd (sEq_self _) fun j y hj hy=>hne j i _ _ hj (h.nm j y hy) (h.nm i d hd)
theorem itB_zone{z:ByteArray}(h:nameB z=true):itB ⟨1,z,noPf,0,zR⟩ true=true:=by simp[itB,h,itN,noPf,zR]
theorem itB_sub{q:Pf}(h:q.okP):itB ⟨2,⟨#[]⟩,q,0,zR⟩ true=true:=by
 have:=nil_self
 simp[itB,h,itP,zR,this]
theorem itB_name{z:ByteArray}{g:Bool}(h:nameB z=true):itB ⟨3,z,noPf,0,zR⟩ g=true:=by simp[itB,h,itN,noPf,zR]
theorem itB_svc{v:Int}{r:Rg}(h:prB v r=true):itB ⟨4,⟨#[]⟩,noPf,v,r⟩ false=true:=by
 have:=nil_self
 simp[itB,h,itS,noPf,this]
theorem pb_exB{raw:List Int}{L:Nat×List Pb->Prop}(a b c:Int)(d:ByteArray)(e f:Int)(q:Nat)(hL:L (q,[⟨a,b,c,d,e,f⟩]))(hR:q<=raw.length)(hB:pbB ⟨a,b,c,d,e,f⟩=true):∃g:Nat×List Pb,(g.1<=raw.length/\g.2.length<=1/\∀x,x∈g.2->pbB x=true)/\L g:=⟨_,⟨hR,by simp,fun x hx=>by rw[List.mem_singleton.1 hx];exact hB⟩,hL⟩
structure TpN (t:Tp):Prop where
 cls:∀d,d∈t.devs->optB d.cls=true
 zone:∀e,e∈t.edges->nameB e.zone=true
 edge:∀e,e∈t.edges->nameB e.name=true
structure ENt (i:Nt):Prop where
 gen:GNt i
 ok:NtOk i
 g:GDs gN i.grps true
 s:GDs sN i.svcs false
 g1:1<=i.grps.length
 w1:i.wins.length<=1
 t3:i.sts.length<=4
 p1:i.pubs.length<=1
 h1:i.hids.length<=1
theorem enInt(raw:List Int)(pos:Nat)(t:Tp)(hte:t.edges.length<=5)(htd:t.devs.length<=100)(htn:TpN t)(ns:Nat)(hns:ns<=4)(hp:pos<=raw.length)(hr:raw.length<=9223372036854775807){K:KT}
  (hK:∀(i:Nt) (pos':Nat),ENt i->pos'<=raw.length->K (encNt i) [tapeO raw pos']):
  ACall Tryz.prog 44 [.op 0 0,encT t,.v (.int .i64 ns)] [tapeO raw pos] K:=by
 refine ofnInt rfl rfl ?_
 (repeat' ((conv=>whnf);first|(with_reducible refine nNext raw _ _ zo zp hr fun m1 p1 hm1 hp1=>?_)|refine zG ?_|apply zA|(apply zI;intro h)|exact zT));(all_goals conv=>whnf)
 refine Lp.intro (Nat×Nat×List Df) (fun g=>⟨7,[(0,tapeO raw g.1),(1,boxT t),(2,nilNt),(3,.box [.os 4 2 0 g.2.2.length,.os 5 2 0 0,.os 6 2 0 0,.nils,.nils,.nils]),(4,.arr 2 (g.2.2.map encDf)),(5,.arr 2 []),(6,.arr 2 [])],[(0,.op 0 0),(2,.v (.int .i64 ns)),(4,.op 1 0),(6,.op 2 0),(7,.op 3 0),(8,.v (.int .i64 g.2.1))]⟩)
  (fun g=>g.1<=raw.length/\(g.2.1+g.2.2.length<=3/\1<=g.2.1+g.2.2.length)/\GDs gN g.2.2 true) (fun g=>g.2.1) (p1,m1+1,[]) ⟨hp1,by simp only[List.length_nil];omega,gds_nil⟩ ?_ ?_
 ·rw[show(((p1,m1+1,[]):Nat×Nat×List Df).2.1:Int)=1+(m1:Int)from by simp only;omega]
  (exact leA)
 rintro⟨p,k,gs⟩ ⟨h1,⟨h2,h2b⟩,h3⟩
 simp only at h1 h2 h2b h3⊢
 have hgnm:=gds_names h3 gN_ok
 rcases Nat.lt_or_ge 0 k with hk|hk
 ·obtain⟨k',rfl⟩:∃k',k=k'+1:=⟨k-1,by omega⟩
  have hk1:((k'+1:Nat):Int)-1=(k':Int):=by omega
  (repeat' ((conv=>whnf);first|(with_reducible first|refine nNext raw _ _ zo zp hr fun m1 p1 hm1 hp1=>?_|refine wr_i64 hk1 zo zo ?_|refine in_nat zo ?_|refine ix_strX gN 3 rfl rfl zo fun c hc=>?_)|refine zG ?_|apply zA|(apply zI;intro h)|exact zT));(all_goals conv=>whnf)
  refine Lp.intro (Nat×Nat×List It) (fun g=>⟨9,[(0,tapeO raw g.1),(1,boxT t),(2,nilNt),(3,.box [.os 4 2 0 gs.length,.os 5 2 0 0,.os 6 2 0 0,.nils,.nils,.nils]),(4,.arr 2 (gs.map encDf)),(5,.arr 2 []),(6,.arr 2 []),(7,.box [.v (.string c),.os 8 7 0 g.2.2.length]),(8,.arr 7 (g.2.2.map encIt))],[(0,.op 0 0),(2,.v (.int .i64 ns)),(4,.op 1 0),(6,.op 2 0),(7,.op 3 0),(8,.v (.int .i64 ((k'+1:Nat):Int))),(9,.op 7 0),(10,.v (.int .i64 g.2.1))]⟩)
   (fun g=>g.1<=raw.length/\(g.2.1+g.2.2.length<=2/\1<=g.2.1+g.2.2.length)/\∀y,y∈g.2.2->itB y true=true) (fun g=>g.2.1) (p1,m1+1,[]) ⟨by with_reducible assumption,by simp only[List.length_nil];omega,fun y h=>by simp at h⟩ ?_ ?_
  ·rw[show(((p1,m1+1,[]):Nat×Nat×List It).2.1:Int)=1+(m1:Int)from by simp only;omega]
   (exact leA)
  clear h1 p hm1 hp1 m1 p1
  rintro⟨p,m,its⟩ ⟨h1,⟨h4,h4b⟩,h9⟩
  simp only at h1 h4 h4b h9⊢
  rcases Nat.lt_or_ge 0 m with hm|hm
  ·obtain⟨m',rfl⟩:∃m',m=m'+1:=⟨m-1,by omega⟩
   have hm1:((m'+1:Nat):Int)-1=(m':Int):=by omega
   (repeat' ((conv=>whnf);first|(with_reducible refine enPref raw _ zw hr fun q p2 hqo hp2=>?_)|refine zG ?_|apply zA|(apply zI;intro h)|exact zT));(all_goals conv=>whnf)
   all_goals
    refine Jn.intro (It×Nat) (fun g=>⟨10,[(0,tapeO raw g.2),(1,boxT t),(2,nilNt),(3,.box [.os 4 2 0 gs.length,.os 5 2 0 0,.os 6 2 0 0,.nils,.nils,.nils]),(4,.arr 2 (gs.map encDf)),(5,.arr 2 []),(6,.arr 2 []),(7,.box [.v (.string c),.os 8 7 0 its.length]),(8,.arr 7 (its.map encIt)),(9,itBox g.1)],[(0,.op 0 0),(2,.v (.int .i64 ns)),(4,.op 1 0),(6,.op 2 0),(7,.op 3 0),(8,.v (.int .i64 ((k'+1:Nat):Int))),(9,.op 7 0),(10,.v (.int .i64 ((m'+1:Nat):Int))),(11,.op 9 0)]⟩) (fun g=>g.2<=raw.length/\itB g.1 true=true) ?_ ?_
    ·(repeat' ((conv=>whnf);first|(with_reducible first|refine nNext raw _ _ (by(try simp only[List.length_map]);omega) zw hr fun m1 p1 hm1 hp1=>?_|refine in_map (by(try simp only[List.length_map]at*);omega) ?_|refine ix_map_any (f:=encE) (by(try simp only[List.length_map]at*);omega) fun e he=>?_)|refine zG ?_|apply zA|(apply zI;intro h)|exact zT));(all_goals conv=>whnf)
     all_goals first
      |(refine⟨(⟨1,e.zone,noPf,0,zR⟩,p1),⟨zw,itB_zone (htn.zone e zw)⟩,?_⟩
        (exact leA)
        done)
      |(refine⟨(⟨2,⟨#[]⟩,q,0,zR⟩,p1),⟨zw,itB_sub hqo⟩,?_⟩
        (exact leA)
        done)
    rintro⟨y0,p4⟩ ⟨hp4,hy0⟩
    simp only at hp4 hy0⊢
    (repeat' ((conv=>whnf);first|refine zG ?_|apply zA|(apply zI;intro h)|exact zT));(all_goals conv=>whnf)
    all_goals
     refine Jn.intro (It×Nat) (fun g=>⟨10,[(0,tapeO raw g.2),(1,boxT t),(2,nilNt),(3,.box [.os 4 2 0 gs.length,.os 5 2 0 0,.os 6 2 0 0,.nils,.nils,.nils]),(4,.arr 2 (gs.map encDf)),(5,.arr 2 []),(6,.arr 2 []),(7,.box [.v (.string c),.os 8 7 0 its.length]),(8,.arr 7 (its.map encIt)),(9,itBox g.1)],[(0,.op 0 0),(2,.v (.int .i64 ns)),(4,.op 1 0),(6,.op 2 0),(7,.op 3 0),(8,.v (.int .i64 ((k'+1:Nat):Int))),(9,.op 7 0),(10,.v (.int .i64 ((m'+1:Nat):Int))),(11,.op 9 0)]⟩) (fun g=>g.2<=raw.length/\itB g.1 true=true) ?_ ?_
     ·(repeat' ((conv=>whnf);first|(with_reducible first|refine nNext raw _ _ (by(try simp only[List.length_map]);omega) zw hr fun m1 p1 hm1 hp1=>?_|refine In.intro 0 rfl (by(try simp only[List.length_map]at*);omega) ?_|refine ix_map_any (f:=encDf) (by(try simp only[List.length_map]at*);omega) fun d hd=>?_)|refine zG ?_|apply zA|(apply zI;intro h)|exact zT));(all_goals conv=>whnf)
      all_goals first
       |(refine⟨(⟨3,d.name,noPf,0,zR⟩,p1),⟨zw,itB_name (hgnm d zw)⟩,?_⟩
         (exact leA)
         done)
       |(refine⟨(y0,p1),⟨zw,hy0⟩,?_⟩
         (exact leA)
         done)
       |(refine⟨(y0,p4),⟨zw,hy0⟩,?_⟩
         (exact leA)
         done)
     rintro⟨y,p3⟩ ⟨hp3,hyv⟩
     simp only at hp3 hyv⊢
     (repeat' ((conv=>whnf);first|(with_reducible refine wr_i64 hm1 zo zo ?_)|refine zG ?_|apply zA|(apply zI;intro h)|exact zT));(all_goals conv=>whnf)
     refine⟨(p3,m',its++[y]),⟨hp3,by simp only[List.length_append,List.length_cons,List.length_nil];omega,fun z hz=>by
      rcases List.mem_append.1 hz with hz|hz
      ·exact h9 z hz
      ·rw[List.mem_singleton.1 hz];exact hyv⟩,by simp only;omega,?_⟩
     simp only[List.map_append,List.length_append,List.map_cons,List.map_nil,List.length_cons,List.length_nil]
     (exact leA)
  ·obtain rfl:m=0:=by omega
   (repeat' ((conv=>whnf);first|(with_reducible refine wr_i64 hk1 zo zo ?_)|refine zG ?_|apply zA|(apply zI;intro h)|exact zT));(all_goals conv=>whnf)
   refine⟨(p,k',gs++[⟨c,its⟩]),⟨h1,by simp only[List.length_append,List.length_cons,List.length_nil];omega,gds_snoc h3 (by rw[<-hc,Nat.zero_add]) zo h9⟩,by simp only;omega,?_⟩
   simp only[List.map_append,List.length_append,List.map_cons,List.map_nil,List.length_cons,List.length_nil]
   (exact leA)
 obtain rfl:k=0:=by omega
 clear hk
 (repeat' ((conv=>whnf);first|(with_reducible refine nNext raw _ _ zo zw hr fun m1 p1 hm1 hp1=>?_)|refine zG ?_|apply zA|(apply zI;intro h)|exact zT));(all_goals conv=>whnf)
 refine Lp.intro (Nat×Nat×List Df) (fun g=>⟨7,[(0,tapeO raw g.1),(1,boxT t),(2,nilNt),(3,.box [.os 4 2 0 gs.length,.os 5 2 0 g.2.2.length,.os 6 2 0 0,.nils,.nils,.nils]),(4,.arr 2 (gs.map encDf)),(5,.arr 2 (g.2.2.map encDf)),(6,.arr 2 [])],[(0,.op 0 0),(2,.v (.int .i64 ns)),(4,.op 1 0),(6,.op 2 0),(7,.op 3 0),(13,.v (.int .i64 g.2.1))]⟩)
  (fun g=>g.1<=raw.length/\g.2.1+g.2.2.length<=2/\GDs sN g.2.2 false/\∀d,d∈g.2.2->∀y,y∈d.items->SvcIt y) (fun g=>g.2.1) (p1,m1,[]) ⟨by with_reducible assumption,by simp only[List.length_nil];omega,gds_nil,fun d h=>by simp at h⟩ ?_ ?_
 ·(exact leA)
 clear h1 p hm1 hp1 m1 p1
 rintro⟨p,k,ss⟩ ⟨h1,h4,h5,h6⟩
 simp only at h1 h4 h5 h6⊢
 have hsnm:=gds_names h5 sN_ok
 rcases Nat.lt_or_ge 0 k with hk|hk
 ·obtain⟨k',rfl⟩:∃k',k=k'+1:=⟨k-1,by omega⟩
  have hk1:((k'+1:Nat):Int)-1=(k':Int):=by omega
  (repeat' ((conv=>whnf);first|(with_reducible first|refine nNext raw _ _ (by(try simp only[List.length_map]);omega) zw hr fun m1 p1 hm1 hp1=>?_|refine wr_i64 hk1 zo zo ?_|refine in_nat zo ?_|refine ix_strX sN 3 rfl rfl zo fun c hc=>?_)|refine zG ?_|apply zA|(apply zI;intro h)|exact zT));(all_goals conv=>whnf)
  refine Lp.intro (Nat×Nat×List It) (fun g=>⟨9,[(0,tapeO raw g.1),(1,boxT t),(2,nilNt),(3,.box [.os 4 2 0 gs.length,.os 5 2 0 ss.length,.os 6 2 0 0,.nils,.nils,.nils]),(4,.arr 2 (gs.map encDf)),(5,.arr 2 (ss.map encDf)),(6,.arr 2 []),(7,.box [.v (.string c),.os 8 7 0 g.2.2.length]),(8,.arr 7 (g.2.2.map encIt))],[(0,.op 0 0),(2,.v (.int .i64 ns)),(4,.op 1 0),(6,.op 2 0),(7,.op 3 0),(13,.v (.int .i64 ((k'+1:Nat):Int))),(14,.op 7 0),(15,.v (.int .i64 g.2.1))]⟩)
   (fun g=>g.1<=raw.length/\(g.2.1+g.2.2.length<=2/\1<=g.2.1+g.2.2.length)/\∀y,y∈g.2.2->SvcIt y/\itB y false=true) (fun g=>g.2.1) (p1,m1+1,[]) ⟨by with_reducible assumption,by simp only[List.length_nil];omega,fun y h=>by simp at h⟩ ?_ ?_
  ·rw[show(((p1,m1+1,[]):Nat×Nat×List It).2.1:Int)=1+(m1:Int)from by simp only;omega]
   (exact leA)
  clear h1 p hm1 hp1 m1 p1
  rintro⟨p,m,its⟩ ⟨h1,⟨h7,h7b⟩,h8⟩
  simp only at h1 h7 h7b h8⊢
  rcases Nat.lt_or_ge 0 m with hm|hm
  ·obtain⟨m',rfl⟩:∃m',m=m'+1:=⟨m-1,by omega⟩
   have hmm:((m'+1:Nat):Int)-1=(m':Int):=by omega
   (repeat' ((conv=>whnf);first|(with_reducible first|refine nNext raw _ _ (by(try simp only[List.length_map]);omega) zw hr fun m1 p1 hm1 hp1=>?_|refine in_nat zo ?_|refine ix_ints [6,17,6,1,50] 5 rfl rfl zo fun v hv=>?_)|refine zG ?_|apply zA|(apply zI;intro h)|exact zT));(all_goals conv=>whnf)
   simp only[List.mem_cons,List.not_mem_nil,or_false]at hv
   refine Jn.intro (It×Nat) (fun g=>⟨10,[(0,tapeO raw g.2),(1,boxT t),(2,nilNt),(3,.box [.os 4 2 0 gs.length,.os 5 2 0 ss.length,.os 6 2 0 0,.nils,.nils,.nils]),(4,.arr 2 (gs.map encDf)),(5,.arr 2 (ss.map encDf)),(6,.arr 2 []),(7,.box [.v (.string c),.os 8 7 0 its.length]),(8,.arr 7 (its.map encIt)),(9,itBox g.1)],[(0,.op 0 0),(2,.v (.int .i64 ns)),(4,.op 1 0),(6,.op 2 0),(7,.op 3 0),(13,.v (.int .i64 ((k'+1:Nat):Int))),(14,.op 7 0),(15,.v (.int .i64 ((m'+1:Nat):Int))),(16,.op 9 0)]⟩) (fun g=>g.2<=raw.length/\SvcIt g.1/\itB g.1 false=true) ?_ ?_
   ·(repeat' ((conv=>whnf);first|(with_reducible refine enRange raw _ 65535 zd zd zw hr fun r p2 hlo hhi hp2=>?_)|refine zG ?_|apply zA|(apply zI;intro h)|exact zT));(all_goals conv=>whnf)
    all_goals first
     |(refine⟨(⟨4,⟨#[]⟩,noPf,v,⟨8,8,by decide,by decide,by decide,by decide⟩⟩,p1),⟨by with_reducible assumption,.inr (.inr (.inl ⟨by simp only;omega,rfl,rfl⟩)),itB_svc (by rw[show v=1 by omega];rfl)⟩,?_⟩
       (exact leA)
       done)
     |(refine⟨(⟨4,⟨#[]⟩,noPf,v,r⟩,p2),⟨by with_reducible assumption,.inr (.inl (by simp only;omega)),itB_svc (by rw[prB,if_pos zo];exact decide_eq_true ⟨hlo,hhi⟩)⟩,?_⟩
       (exact leA)
       done)
     |(refine⟨(⟨4,⟨#[]⟩,noPf,v,zR⟩,p1),⟨by with_reducible assumption,.inr (.inr (.inr ⟨by simp only;omega,rfl,rfl⟩)),itB_svc (by rw[show v=50 by omega];rfl)⟩,?_⟩
       (exact leA)
       done)
   rintro⟨y0,p4⟩ ⟨hp4,hy0⟩
   simp only at hp4 hy0⊢
   (repeat' ((conv=>whnf);first|refine zG ?_|apply zA|(apply zI;intro h)|exact zT));(all_goals conv=>whnf)
   refine Jn.intro (It×Nat) (fun g=>⟨10,[(0,tapeO raw g.2),(1,boxT t),(2,nilNt),(3,.box [.os 4 2 0 gs.length,.os 5 2 0 ss.length,.os 6 2 0 0,.nils,.nils,.nils]),(4,.arr 2 (gs.map encDf)),(5,.arr 2 (ss.map encDf)),(6,.arr 2 []),(7,.box [.v (.string c),.os 8 7 0 its.length]),(8,.arr 7 (its.map encIt)),(9,itBox g.1)],[(0,.op 0 0),(2,.v (.int .i64 ns)),(4,.op 1 0),(6,.op 2 0),(7,.op 3 0),(13,.v (.int .i64 ((k'+1:Nat):Int))),(14,.op 7 0),(15,.v (.int .i64 ((m'+1:Nat):Int))),(16,.op 9 0)]⟩) (fun g=>g.2<=raw.length/\SvcIt g.1/\itB g.1 false=true) ?_ ?_
   ·(repeat' ((conv=>whnf);first|(with_reducible first|refine nNext raw _ _ (by(try simp only[List.length_map]);omega) zw hr fun m1 p1 hm1 hp1=>?_|refine In.intro 0 rfl (by(try simp only[List.length_map]at*);omega) ?_|refine ix_map_any (f:=encDf) (by(try simp only[List.length_map]at*);omega) fun d hd=>?_)|refine zG ?_|apply zA|(apply zI;intro h)|exact zT));(all_goals conv=>whnf)
    all_goals first
     |(refine⟨(⟨3,d.name,noPf,0,zR⟩,p1),⟨by with_reducible assumption,.inl ⟨rfl,rfl,rfl,rfl⟩,itB_name (hsnm d zw)⟩,?_⟩
       (exact leA)
       done)
     |(refine⟨(y0,p1),⟨by with_reducible assumption,hy0⟩,?_⟩
       (exact leA)
       done)
     |(refine⟨(y0,p4),⟨by with_reducible assumption,hy0⟩,?_⟩
       (exact leA)
       done)
   rintro⟨y,p3⟩ ⟨hp3,hyv⟩
   simp only at hp3 hyv⊢
   (repeat' ((conv=>whnf);first|(with_reducible refine wr_i64 hmm zo zo ?_)|refine zG ?_|apply zA|(apply zI;intro h)|exact zT));(all_goals conv=>whnf)
   refine⟨(p3,m',its++[y]),⟨hp3,by simp only[List.length_append,List.length_cons,List.length_nil];omega,fun z hz=>by
    rcases List.mem_append.1 hz with hz|hz
    ·exact h8 z hz
    ·rw[List.mem_singleton.1 hz];exact hyv⟩,by simp only;omega,?_⟩
   simp only[List.map_append,List.length_append,List.map_cons,List.map_nil,List.length_cons,List.length_nil]
   (exact leA)
  ·obtain rfl:m=0:=by omega
   (repeat' ((conv=>whnf);first|(with_reducible refine wr_i64 hk1 zo zo ?_)|refine zG ?_|apply zA|(apply zI;intro h)|exact zT));(all_goals conv=>whnf)
   refine⟨(p,k',ss++[⟨c,its⟩]),⟨h1,by simp only[List.length_append,List.length_cons,List.length_nil];omega,gds_snoc h5 (by rw[<-hc,Nat.zero_add]) zo (fun y hy=>(h8 y hy).2),fun d hd=>by
    rcases List.mem_append.1 hd with hd|hd
    ·exact h6 d hd
    ·rw[List.mem_singleton.1 hd];exact fun y hy=>(h8 y hy).1⟩,by simp only;omega,?_⟩
   simp only[List.map_append,List.length_append,List.map_cons,List.map_nil,List.length_cons,List.length_nil]
   (exact leA)
 obtain rfl:k=0:=by omega
 clear hk
 (repeat' ((conv=>whnf);first|refine zG ?_|apply zA|(apply zI;intro h)|exact zT));(all_goals conv=>whnf)
 refine Jn.intro (Nat×List Wn) (fun g=>⟨7,[(0,tapeO raw g.1),(1,boxT t),(2,nilNt),(3,.box [.os 4 2 0 gs.length,.os 5 2 0 ss.length,.os 6 2 0 g.2.length,.nils,.nils,.nils]),(4,.arr 2 (gs.map encDf)),(5,.arr 2 (ss.map encDf)),(6,.arr 2 (g.2.map encWn))],[(0,.op 0 0),(2,.v (.int .i64 ns)),(4,.op 1 0),(6,.op 2 0),(7,.op 3 0)]⟩)
  (fun g=>g.1<=raw.length/\g.2.length<=1/\∀w,w∈g.2->w.name=⟨#[119,111,114,107]⟩/\WinOk w.act/\w.act.length<=16) ?_ ?_
 ·(repeat' ((conv=>whnf);first|(with_reducible first|refine nNext raw _ _ (by(try simp only[List.length_map]);omega) zw hr fun m1 p1 hm1 hp1=>?_|refine enWin raw _ zw hr fun rs p2 hrs hrl hp2=>?_)|refine zG ?_|apply zA|(apply zI;intro h)|exact zT));(all_goals conv=>whnf)
  all_goals first
   |(refine⟨(p2,[⟨⟨#[119,111,114,107]⟩,rs⟩]),⟨by with_reducible assumption,by simp,fun w hw=>by rw[List.mem_singleton.1 hw];exact⟨rfl,hrs,hrl⟩⟩,?_⟩
     (exact leA)
     done)
   |(refine⟨(p1,[]),⟨by with_reducible assumption,by simp,fun w hw=>by simp at hw⟩,?_⟩
     (exact leA)
     done)
 rintro⟨p5,ws⟩ ⟨hp5,hw1,hw2⟩
 simp only at hp5 hw1 hw2⊢
 have hwnm:∀w,w∈ws->nameB w.name=true:=fun w hw=>by rw[(hw2 w hw).1];exact nameB_lit (by decide+kernel)
 (repeat' ((conv=>whnf);first|(with_reducible first|refine sl_full (List.length_map ..) ?_|refine nNext raw _ _ (by(try simp only[List.length_map]);omega) zw hr fun m1 p1 hm1 hp1=>?_)|refine zG ?_|apply zA|(apply zI;intro h)|exact zT));(all_goals conv=>whnf)
 refine Lp.intro (Nat×Nat×List Sm) (fun g=>⟨5,[(0,tapeO raw g.1),(1,boxT t),(2,nilNt),(3,.box [.lst (gs.map encDf),.lst (ss.map encDf),.lst (ws.map encWn),.os 4 10 0 g.2.2.length,.nils,.nils]),(4,.arr 10 (g.2.2.map encSm))],[(0,.op 0 0),(4,.op 1 0),(6,.op 2 0),(7,.op 3 0),(17,.v (.int .i64 g.2.1))]⟩)
  (fun g=>g.1<=raw.length/\g.2.1+g.2.2.length<=4/\∀x,x∈g.2.2->smB x=true) (fun g=>g.2.1) (p1,m1,[]) ⟨by with_reducible assumption,by simp only[List.length_nil];omega,fun x h=>by simp at h⟩ ?_ ?_
 ·(exact leA)
 clear h1 p hm1 hp1 m1 p1
 rintro⟨p,k,sts⟩ ⟨h1,h7,hst⟩
 simp only at h1 h7 hst⊢
 rcases Nat.lt_or_ge 0 k with hk|hk
 ·obtain⟨k',rfl⟩:∃k',k=k'+1:=⟨k-1,by omega⟩
  have hkk:((k'+1:Nat):Int)-1=(k':Int):=by omega
  (repeat' ((conv=>whnf);first|(with_reducible first|refine wr_i64 hkk zo zo ?_|refine enStm raw _ t htd gs ss ws sts zo zo zo zw hr htn.cls hgnm hsnm hwnm fun x p2 hxo hp2=>?_)|refine zG ?_|apply zA|(apply zI;intro h)|exact zT));(all_goals conv=>whnf)
  all_goals
   refine⟨(p2,k',sts++[x]),⟨by with_reducible assumption,by simp only[List.length_append,List.length_cons,List.length_nil];omega,fun z hz=>by
    rcases List.mem_append.1 hz with hz|hz
    ·exact hst z hz
    ·rw[List.mem_singleton.1 hz];exact hxo⟩,by simp only;omega,?_⟩
   simp only[List.map_append,List.length_append,List.map_cons,List.map_nil,List.length_cons,List.length_nil]
   (exact leA)
 obtain rfl:k=0:=by omega
 clear hk
 (repeat' ((conv=>whnf);first|refine zG ?_|apply zA|(apply zI;intro h)|exact zT));(all_goals conv=>whnf)
 refine Jn.intro (Nat×List Pb) (fun g=>⟨7,[(0,tapeO raw g.1),(1,boxT t),(2,nilNt),(3,.box [.lst (gs.map encDf),.lst (ss.map encDf),.lst (ws.map encWn),.os 4 10 0 sts.length,.os 5 6 0 g.2.length,.os 6 5 0 0]),(4,.arr 10 (sts.map encSm)),(5,.arr 6 (g.2.map encPb)),(6,.arr 5 [])],[(0,.op 0 0),(4,.op 1 0),(6,.op 2 0),(7,.op 3 0)]⟩) (fun g=>g.1<=raw.length/\g.2.length<=1/\∀x,x∈g.2->pbB x=true) ?_ ?_
 ·(repeat' ((conv=>whnf);first|(with_reducible first|refine nNext raw _ _ (by(try simp only[List.length_map]);omega) zw hr fun m1 p1 hm1 hp1=>?_|refine In.intro 1 rfl (by(try simp only[List.length_map]at*);omega) ?_|refine In.intro 0 rfl (by(try simp only[List.length_map]at*);omega) ?_|refine ix_map_any (f:=encE) (by(try simp only[List.length_map]at*);omega) fun e he=>?_|refine crOf _ ?_|refine in_nat zo ?_|refine ix_ints [6,17] 2 rfl rfl zo fun v hv=>?_|refine enNum raw _ 65535 zd zd zw hr fun a p2 a0 a1 hp2=>?_)|refine zG ?_|apply zA|(apply zI;intro h)|exact zT));(all_goals conv=>whnf)
  all_goals first
   |(refine⟨(p1,[]),⟨by with_reducible assumption,by simp,fun x h=>by simp at h⟩,?_⟩
     (exact leA)
     done)
   |(refine⟨(p,[]),⟨by with_reducible assumption,by simp,fun x h=>by simp at h⟩,?_⟩
     (exact leA)
     done)
   |(apply pb_exB
     ·(exact leA)
     ·with_reducible assumption
     ·have hnm:=htn.edge _ zw
      simp only[List.mem_cons,List.not_mem_nil,or_false]at hv
      simp only[pbB,ptB,hnm,Bool.and_true,Bool.and_eq_true,Bool.or_eq_true,decide_eq_true_eq]
      omega)
 rintro⟨p6,pbs⟩ ⟨hp6,hb1,hb2⟩
 simp only at hp6 hb1 hb2⊢
 (repeat' ((conv=>whnf);first|refine zG ?_|apply zA|(apply zI;intro h)|exact zT));(all_goals conv=>whnf)
 refine Jn.intro (Nat×List Hn) (fun g=>⟨7,[(0,tapeO raw g.1),(1,boxT t),(2,nilNt),(3,.box [.lst (gs.map encDf),.lst (ss.map encDf),.lst (ws.map encWn),.os 4 10 0 sts.length,.os 5 6 0 pbs.length,.os 6 5 0 g.2.length]),(4,.arr 10 (sts.map encSm)),(5,.arr 6 (pbs.map encPb)),(6,.arr 5 (g.2.map encHn))],[(0,.op 0 0),(4,.op 1 0),(6,.op 2 0),(7,.op 3 0)]⟩) (fun g=>g.1<=raw.length/\g.2.length<=1/\∀x,x∈g.2->hnB x=true) ?_ ?_
 ·(repeat' ((conv=>whnf);first|(with_reducible first|refine nNext raw _ _ (by(try simp only[List.length_map]);omega) zw hr fun m1 p1 hm1 hp1=>?_|refine in_map (by(try simp only[List.length_map]at*);omega) ?_|refine ix_map_any (f:=encE) (by(try simp only[List.length_map]at*);omega) fun e he=>?_)|refine zG ?_|apply zA|(apply zI;intro h)|exact zT));(all_goals conv=>whnf)
  all_goals first
   |(refine⟨(p1,[⟨⟨#[103,49]⟩,e.name,3325256705,⟨1024,1024+(m1:Int),by decide,by decide,by omega,by omega⟩⟩]),⟨by with_reducible assumption,by simp,fun x h=>by
      rw[List.mem_singleton.1 h]
      have hnm:=htn.edge e zw
      have hg1:nameB ⟨#[103,49]⟩=true:=nameB_lit (by decide+kernel)
      simp only[hnB,hnm,hg1,Bool.true_and,decide_eq_true_eq]
      omega⟩,?_⟩
     (exact leA)
     done)
   |(refine⟨(p1,[]),⟨by with_reducible assumption,by simp,fun x h=>by simp at h⟩,?_⟩
     (exact leA)
     done)
   |(refine⟨(p6,[]),⟨by with_reducible assumption,by simp,fun x h=>by simp at h⟩,?_⟩
     (exact leA)
     done)
 rintro⟨p7,hds⟩ ⟨hp7,hh1,hh2⟩
 simp only at hp7 hh1 hh2⊢
 (repeat' ((conv=>whnf);first|(with_reducible refine sl_full (List.length_map ..) ?_)|refine zG ?_|apply zA|(apply zI;intro h)|exact zT));(all_goals conv=>whnf)
 refine hK ⟨gs,ss,ws,sts,pbs,hds⟩ p7 ⟨⟨⟨⟨by simp only;omega,by simp only;omega,by simp only;omega,by simp only;omega,by simp only;omega,by simp only;omega,fun d hd=>Nat.le_trans (h3.it d hd).2 zd,fun d hd=>Nat.le_trans (h5.it d hd).2 zd,fun w hw=>?_⟩,by simp only;omega,by simp only;omega,fun d hd=>(h3.it d hd).2,fun d hd=>(h5.it d hd).2⟩,by simp only;omega,h6⟩,
  ⟨gds_ok h3 gN_ok gN_ne (by simp only;omega),gds_ok h5 sN_ok sN_ne (by simp only;omega),by simp only;omega,by simp only;omega,by simp only;omega,by simp only;omega,fun i x hx=>?_,hst,hb2,hh2⟩,h3,h5,by simp only;omega,by simp only;omega,by simp only;omega,by simp only;omega,by simp only;omega⟩ hp7
 ·exact Nat.le_trans (hw2 w hw).2.2 zd
 ·have hi:=(List.getElem?_eq_some_iff.1 hx).1
  obtain rfl:i=0:=by simp only at hi;omega
  refine⟨hwnm x (List.mem_of_getElem? hx),?_,(hw2 x (List.mem_of_getElem? hx)).2.1⟩
  unfold wnIx
  exact firstIx_at (p:=fun y=>sEq y.name x.name) hx (sEq_self _) fun j y hj _=>absurd hj (Nat.not_lt_zero _)
theorem tpn_top{t:Tp}(h:GTop t):TpN t where
 cls:=fun d hd=>by
  obtain⟨i,hi⟩:=List.mem_iff_getElem?.1 hd
  have hc:=(h.dv i d hi).cls
  have hl:∀s,s∈clL->sEqD s ⟨#[]⟩=true\/nmChk s.data.toList=true:=by decide+kernel
  unfold optB
  rw[Bool.or_eq_true]
  rcases hl _ hc with h1|h1
  ·exact .inl (by rw[sEq_data];exact h1)
  ·exact .inr (nameB_lit h1)
 zone:=fun e he=>by
  obtain⟨i,hi⟩:=List.mem_iff_getElem?.1 he
  have hz:=(h.ed i e hi).zone
  exact nameB_lit ((show ∀s,s∈zoL->nmChk s.data.toList=true by decide+kernel) _ hz)
 edge:=fun e he=>by
  obtain⟨i,hi⟩:=List.mem_iff_getElem?.1 he
  have hl:=(List.getElem?_eq_some_iff.1 hi).1
  have h5:=h.e5
  rw[(h.ed i e hi).name]
  exact nameB_lit ((show ∀j:Fin 5,nmChk (enL.getD j.val default).data.toList=true by decide+kernel) ⟨i,by omega⟩)
theorem sum_two(l:List Df)(h:∀d,d∈l->d.items.length<=2):itsN l<=2*l.length:=by
 unfold itsN
 induction l with
 |nil=>simp
 |cons d l ih=>
  have:=ih fun x hx=>h x (List.mem_cons_of_mem _ hx)
  have:=h d zx
  simp only[List.map_cons,List.sum_cons,List.length_cons];omega
theorem bnd_ent{i:Nt}(h:ENt i):Bnd i:=by
 have f:=h.gen.few
 have o:=h.ok
 have g3:=f.g3;have s3:=f.s3
 have a:=sum_two _ f.gi;have b:=sum_two _ f.si
 have c1:=o.wl;have c2:=o.tl;have c3:=o.pl;have c4:=o.hl
 exact⟨by omega,by omega,by omega,by omega,by omega,by omega,fun x hx=>Nat.le_trans (f.gi x hx) zd,fun x hx=>Nat.le_trans (f.si x hx) zd,f.sml.wi,by omega,by omega⟩
section
variable {I:List (Int×Rg)} {X:List Bx}
end
section
variable {I:List (Int×Rg)}
end
def hdQ(h:Hd):Nat->Int
 |0=>h.src
 |1=>h.dst
 |2=>h.pro
 |3=>h.sp
 |_=>h.dp
theorem cwSub0{K:KT}(hK:K (encP pf0) []):ACall Tryz.prog 105 [.v (.int .i64 0)] [] K:=cnSub 0 zd hK
theorem cwSub4{K:KT}(hK:K (encP pf4) []):ACall Tryz.prog 105 [.v (.int .i64 4)] [] K:=cnSub 4 zd hK
end Go.Proofs.YtbdikofefjljoaaGreatDoor
