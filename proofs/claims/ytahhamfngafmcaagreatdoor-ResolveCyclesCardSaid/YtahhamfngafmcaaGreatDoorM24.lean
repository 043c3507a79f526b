/- The program's intents: Valid. -/
import Derived.Test.YtahhamfngafmcaaGreatDoorM23
set_option linter.unusedVariables false
set_option linter.unusedSimpArgs false
set_option maxRecDepth 100000
set_option maxHeartbeats 4000000
namespace Go.Proofs.YtahhamfngafmcaaGreatDoor
open Go Go.Vm
structure Bnd (i:Nt):Prop where
 g:i.grps.length<=999
 s:i.svcs.length<=999
 w:i.wins.length<=999
 t:i.sts.length<=999
 p:i.pubs.length<=999
 h:i.hids.length<=999
 gi:∀x,x∈i.grps->x.items.length<=999
 si:∀x,x∈i.svcs->x.items.length<=999
 wi:∀x,x∈i.wins->x.act.length<=4000
 its:itsN i.grps<=70
 sits:itsN i.svcs<=70000
theorem ckFind1(d:Df)(s:ByteArray){K:KT}(hK:K (.sb (sEq d.name s)) []):ACall Tryz.prog 180 [encDf d,.fp [.v (.string s)]] [] K:=by
 refine ofiFind1 rfl rfl ?_
 (repeat' ((conv=>whnf);first|refine zG ?_|apply zA|(apply zI;intro h)|exact zT));(all_goals conv=>whnf)
 exact hK
theorem cixD(l:List Df)(f:FuncId)(cs:List AV)(p:Df->Bool)(hF:∀(x:Df) (K:AV->List Vm.Obj->Prop),K (.sb (p x)) []->ACall Tryz.prog f [encDf x,.fp cs] [] K)(hl:l.length<1000000){K:KT}(hK:K (.v (.int .i64 (firstIx p l))) []):
  ACall Tryz.prog 179 [.lst (l.map encDf),.fn (.func f) [] [.fp cs]] [] K:=by
 refine ofwIxD rfl rfl ?_
 (repeat' ((conv=>whnf);first|refine zG ?_|apply zA|(apply zI;intro h)|exact zT));(all_goals conv=>whnf)
 refine Lp.intro Nat (fun k=>⟨0,[],[(0,.lst (l.map encDf)),(1,.fn (.func f) [] [.fp cs]),(7,.v (.int .i64 (l.map encDf).length)),(8,.v (.int .i64 k))]⟩) (fun k=>k<=l.length/\∀(i:Nat) y,i<k->l[i]? =some y->p y=false) (fun k=>l.length-k) 0 ⟨Nat.zero_le _,fun i y hi=>absurd hi (Nat.not_lt_zero _)⟩ ?_ ?_
 ·(exact leA)
 intro k ⟨hk,hinv⟩
 rcases Nat.lt_or_ge k l.length with hkl|hkl
 ·obtain⟨r,hr⟩:=gex hkl
  (repeat' ((conv=>whnf);first|(with_reducible first|refine in_map hkl ?_|refine ix_map hr ?_|refine hF r _ ?_)|refine zG ?_|apply zA|(apply zI;intro h)|exact zT));(all_goals conv=>whnf)
  ·rw[firstIx_at hr h hinv]at hK;exact hK
  ·refine⟨k+1,⟨by omega,before_succ hr h hinv⟩,by omega,?_⟩
   rw[Int.natCast_add,Int.natCast_one]
   (exact leA)
 ·(repeat' ((conv=>whnf);first|refine zG ?_|apply zA|(apply zI;intro h)|exact zT));(all_goals conv=>whnf)
  rw[firstIx_none (before_all hkl hinv)]at hK
  exact hK
theorem ckFind(l:List Df)(s:ByteArray)(hl:l.length<1000000){K:KT}(hK:K (.v (.int .i64 (dfIx l s))) []):ACall Tryz.prog 134 [.lst (l.map encDf),.v (.string s)] [] K:=by
 have hc:∀{K:KT},K (.v (.int .i64 (dfIx l s))) []->ACall Tryz.prog 179 [.lst (l.map encDf),.fn (.func 180) [] [.fp [.v (.string s)]]] [] K:=fun h=>cixD l _ _ (fun d=>sEq d.name s) (fun x K h=>ckFind1 x s h) hl h
 refine ofiFind rfl rfl ?_
 (repeat' ((conv=>whnf);first|(with_reducible refine hc ?_)|refine zG ?_|apply zA|(apply zI;intro h)|exact zT));(all_goals conv=>whnf)
 exact hK
theorem ckWnd1(d:Wn)(s:ByteArray){K:KT}(hK:K (.sb (sEq d.name s)) []):ACall Tryz.prog 138 [encWn d,.fp [.v (.string s)]] [] K:=by
 refine ofiWnd1 rfl rfl ?_
 (repeat' ((conv=>whnf);first|refine zG ?_|apply zA|(apply zI;intro h)|exact zT));(all_goals conv=>whnf)
 exact hK
theorem cixW(l:List Wn)(f:FuncId)(cs:List AV)(p:Wn->Bool)(hF:∀(x:Wn) (K:AV->List Vm.Obj->Prop),K (.sb (p x)) []->ACall Tryz.prog f [encWn x,.fp cs] [] K)(hl:l.length<1000000){K:KT}(hK:K (.v (.int .i64 (firstIx p l))) []):
  ACall Tryz.prog 137 [.lst (l.map encWn),.fn (.func f) [] [.fp cs]] [] K:=by
 refine ofiIxW rfl rfl ?_
 (repeat' ((conv=>whnf);first|refine zG ?_|apply zA|(apply zI;intro h)|exact zT));(all_goals conv=>whnf)
 refine Lp.intro Nat (fun k=>⟨0,[],[(0,.lst (l.map encWn)),(1,.fn (.func f) [] [.fp cs]),(7,.v (.int .i64 (l.map encWn).length)),(8,.v (.int .i64 k))]⟩) (fun k=>k<=l.length/\∀(i:Nat) y,i<k->l[i]? =some y->p y=false) (fun k=>l.length-k) 0 ⟨Nat.zero_le _,fun i y hi=>absurd hi (Nat.not_lt_zero _)⟩ ?_ ?_
 ·(exact leA)
 intro k ⟨hk,hinv⟩
 rcases Nat.lt_or_ge k l.length with hkl|hkl
 ·obtain⟨r,hr⟩:=gex hkl
  (repeat' ((conv=>whnf);first|(with_reducible first|refine in_map hkl ?_|refine ix_map hr ?_|refine hF r _ ?_)|refine zG ?_|apply zA|(apply zI;intro h)|exact zT));(all_goals conv=>whnf)
  ·rw[firstIx_at hr h hinv]at hK;exact hK
  ·refine⟨k+1,⟨by omega,before_succ hr h hinv⟩,by omega,?_⟩
   rw[Int.natCast_add,Int.natCast_one]
   (exact leA)
 ·(repeat' ((conv=>whnf);first|refine zG ?_|apply zA|(apply zI;intro h)|exact zT));(all_goals conv=>whnf)
  rw[firstIx_none (before_all hkl hinv)]at hK
  exact hK
theorem ckWnd(l:List Wn)(s:ByteArray)(hl:l.length<1000000){K:KT}(hK:K (.v (.int .i64 (wnIx l s))) []):ACall Tryz.prog 78 [.lst (l.map encWn),.v (.string s)] [] K:=by
 have hc:∀{K:KT},K (.v (.int .i64 (wnIx l s))) []->ACall Tryz.prog 137 [.lst (l.map encWn),.fn (.func 138) [] [.fp [.v (.string s)]]] [] K:=fun h=>cixW l _ _ (fun d=>sEq d.name s) (fun x K h=>ckWnd1 x s h) hl h
 refine ofiWnd rfl rfl ?_
 (repeat' ((conv=>whnf);first|(with_reducible refine hc ?_)|refine zG ?_|apply zA|(apply zI;intro h)|exact zT));(all_goals conv=>whnf)
 exact hK
theorem ckDefs(l:List Df)(v:Bool)(hl:l.length<=999)(hi:∀x,x∈l->x.items.length<=999){K:KT}(hK:K (.sb (dfsB l (!v))) []):ACall Tryz.prog 75 [.lst (l.map encDf),.sb v] [] K:=by
 refine ACall.bool (ofiDefs rfl rfl ?_)
 (repeat' ((conv=>whnf);first|refine zG ?_|apply zA|(apply zI;intro h)|exact zT));(all_goals conv=>whnf)
 refine Lp.intro Nat (fun i=>⟨0,[],[(0,.lst (l.map encDf)),(1,.sb v),(9,.lst (l.map encDf)),(10,.v (.int .i64 (l.map encDf).length)),(11,.v (.int .i64 i))]⟩) (fun i=>i<=l.length/\∀(j:Nat) d,j<i->l[j]? =some d->DfOk l (!v) j d) (fun i=>l.length-i) 0 ⟨Nat.zero_le _,fun i y hi=>absurd hi (Nat.not_lt_zero _)⟩ ?_ ?_
 ·(exact leA)
 intro i ⟨hil0,hinv⟩
 rcases Nat.lt_or_ge i l.length with hil|hil
 ·obtain⟨x,hx⟩:=gex hil
  have hxi:=hi x (List.mem_of_getElem? hx)
  have hno:(DfOk l (!v) i x->False)->dfsB l (!v)=false:=fun h=>dfsB_false fun hn=>h (hn.all i x hx)
  (repeat' ((conv=>whnf);first|(with_reducible first|refine in_map hil ?_|refine ix_map hx ?_)|refine zG ?_|apply zA|(apply zI;intro h)|exact zT));(all_goals conv=>whnf)
  refine Jn.intro Unit (fun _=>⟨1,[(0,.box [.v (.string x.name),.lst (x.items.map encIt)])],[(0,.lst (l.map encDf)),(1,.sb v),(5,.v (.int .i64 i)),(6,.op 0 0),(9,.lst (l.map encDf)),(10,.v (.int .i64 (l.map encDf).length)),(11,.v (.int .i64 i))]⟩) (fun _=>nameB x.name=true/\1<=x.items.length/\x.items.length<=16/\dfIx l x.name=i) ?_ ?_
  ·(repeat' ((conv=>whnf);first|(with_reducible first|refine csName _ ?_|refine ckFind l _ (by omega) ?_)|refine zG ?_|apply zA|(apply zI;intro h)|exact zT));(all_goals conv=>whnf)
   all_goals first
    |(refine⟨(),⟨by with_reducible assumption,by simp only[List.length_map]at*;omega,by simp only[List.length_map]at*;omega,by with_reducible assumption⟩,?_⟩
      (exact leA)
      done)
    |(refine fin_f hK (hno fun hn=>?_)
      have n1:=hn.name;have n2:=hn.first;have n3:=hn.lo;have n4:=hn.hi
      (try simp only[List.length_map]at*)
      first|omega|simp_all)
  rintro⟨⟩ ⟨h1,h2,h3,h4⟩
  (repeat' ((conv=>whnf);first|refine zG ?_|apply zA|(apply zI;intro h)|exact zT));(all_goals conv=>whnf)
  refine Lp.intro Nat (fun k=>⟨1,[],[(0,.lst (l.map encDf)),(1,.sb v),(9,.lst (l.map encDf)),(10,.v (.int .i64 (l.map encDf).length)),(11,.v (.int .i64 i)),(41,.lst (x.items.map encIt)),(42,.v (.int .i64 (x.items.map encIt).length)),(43,.v (.int .i64 k))]⟩) (fun k=>k<=x.items.length/\∀(j:Nat) y,j<k->x.items[j]? =some y->itB y (!v)=true) (fun k=>x.items.length-k) 0 ⟨Nat.zero_le _,fun i y hi=>absurd hi (Nat.not_lt_zero _)⟩ ?_ ?_
  ·(exact leA)
  intro k ⟨hk0,hkv⟩
  rcases Nat.lt_or_ge k x.items.length with hkl|hkl
  ·obtain⟨y,hy⟩:=gex hkl
   (repeat' ((conv=>whnf);first|(with_reducible first|refine in_map hkl ?_|refine ix_map hy ?_|refine ckItem y v ?_)|refine zG ?_|apply zA|(apply zI;intro h)|exact zT));(all_goals conv=>whnf)
   ·refine⟨k+1,⟨hkl,all_succ hy h hkv⟩,by omega,?_⟩
    rw[Int.natCast_add,Int.natCast_one]
    (exact leA)
   ·refine fin_f hK (hno fun hn=>?_)
    rw[hn.all y (List.mem_of_getElem? hy)]at h;cases h
  ·(repeat' ((conv=>whnf);first|refine zG ?_|apply zA|(apply zI;intro h)|exact zT));(all_goals conv=>whnf)
   have hall:=before_all hkl hkv
   refine⟨i+1,⟨hil,all_succ hx ⟨h1,h4,h2,h3,fun y hy=>?_⟩ hinv⟩,by omega,?_⟩
   ·obtain⟨j,hj⟩:=List.mem_iff_getElem?.1 hy
    exact hall j y hj
   ·rw[Int.natCast_add,Int.natCast_one]
    (exact leA)
 ·(repeat' ((conv=>whnf);first|refine zG ?_|apply zA|(apply zI;intro h)|exact zT));(all_goals conv=>whnf)
  refine fin_s hK ?_
  have hall:=before_all hil hinv
  rw[Bool.eq_iff_iff,dfsB_iff,decide_eq_true_eq,List.length_map]
  exact⟨fun h=>by have:=h.len;omega,fun h=>⟨by omega,hall⟩⟩
theorem ckDefsV(l:List Df)(v:Bool)(hl:l.length<=999)(hi:∀x,x∈l->x.items.length<=999){K:KT}(hK:K (.sb (dfsB l (!v))) []):ACall Tryz.prog 75 [.lst (l.map encDf),.v (.bool v)] [] K:=
 ACall.args (ys:=[.lst (l.map encDf),.sb v]) ⟨Weak.refl,Weak.bool,trivial⟩ (ckDefs l v hl hi hK)
theorem ckPort(n:Int){K:KT}(hK:K (.sb (ptB n)) []):ACall Tryz.prog 79 [.v (.int .i64 n)] [] K:=by
 refine ACall.bool (ofiVal1 rfl rfl ?_)
 (repeat' ((conv=>whnf);first|refine zG ?_|apply zA|(apply zI;intro h)|exact zT));(all_goals conv=>whnf)
 ·exact fin_s hK (by unfold ptB;simp_all)
 ·exact fin_f hK (by unfold ptB;rw[decide_eq_false (by omega)];rfl)
theorem ckNoSm(x:Sm){K:KT}(hK:K (.sb (!smB x)) []):ACall Tryz.prog 81 [encSm x] [] K:=by
 refine ofiVal2 rfl rfl ?_
 (repeat' ((conv=>whnf);first|(with_reducible refine ckSm x ?_)|refine zG ?_|apply zA|(apply zI;intro h)|exact zT));(all_goals conv=>whnf)
 exact hK
theorem ckIxS(l:List Sm)(hl:l.length<1000000){K:KT}(hK:K (.v (.int .i64 (firstIx (fun x=> !smB x) l))) []):
  ACall Tryz.prog 139 [.lst (l.map encSm),.fn (.func 81) [] []] [] K:=by
 refine ofiIxS rfl rfl ?_
 (repeat' ((conv=>whnf);first|refine zG ?_|apply zA|(apply zI;intro h)|exact zT));(all_goals conv=>whnf)
 refine Lp.intro Nat (fun k=>⟨0,[],[(0,.lst (l.map encSm)),(1,.fn (.func 81) [] []),(7,.v (.int .i64 (l.map encSm).length)),(8,.v (.int .i64 k))]⟩) (fun k=>k<=l.length/\∀(i:Nat) y,i<k->l[i]? =some y->(!smB y)=false) (fun k=>l.length-k) 0 ⟨Nat.zero_le _,fun i y hi=>absurd hi (Nat.not_lt_zero _)⟩ ?_ ?_
 ·(exact leA)
 intro k ⟨hk,hinv⟩
 rcases Nat.lt_or_ge k l.length with hkl|hkl
 ·obtain⟨r,hr⟩:=gex hkl
  (repeat' ((conv=>whnf);first|(with_reducible first|refine in_map hkl ?_|refine ix_map hr ?_|refine ckNoSm r ?_)|refine zG ?_|apply zA|(apply zI;intro h)|exact zT));(all_goals conv=>whnf)
  all_goals first
   |(rw[firstIx_at (p:=fun x=> !smB x) hr (by simp only[h];rfl) hinv]at hK
     exact hK)
   |(refine⟨k+1,⟨by omega,before_succ (p:=fun x=> !smB x) hr (by simp only[h];rfl) hinv⟩,by omega,?_⟩
     rw[Int.natCast_add,Int.natCast_one]
     (exact leA))
 ·(repeat' ((conv=>whnf);first|refine zG ?_|apply zA|(apply zI;intro h)|exact zT));(all_goals conv=>whnf)
  rw[firstIx_none (p:=fun x=> !smB x) (before_all hkl hinv)]at hK
  exact hK
theorem first_any{α:Type}(p:α->Bool)(l:List α):decide (0<=firstIx p l)=l.any p:=by
 rw[Bool.eq_iff_iff,decide_eq_true_eq,List.any_eq_true]
 unfold firstIx
 cases hf:l.findIdx? p with
 |none=>
  rw[List.findIdx?_eq_none_iff]at hf
  constructor
  ·intro h;simp at h
  ·rintro⟨x,hx,hp⟩
   rw[hf x hx]at hp;cases hp
 |some n=>
  rw[List.findIdx?_eq_some_iff_getElem]at hf
  obtain⟨h1,h2,_⟩:=hf
  exact⟨fun _=>⟨_,List.getElem_mem h1,h2⟩,fun _=>by simp only;omega⟩
theorem ckAnS(l:List Sm)(hl:l.length<1000000){K:KT}(hK:K (.sb (l.any fun x=> !smB x)) []):
  ACall Tryz.prog 80 [.lst (l.map encSm),.fn (.func 81) [] []] [] K:=by
 refine ofiAnS rfl rfl ?_
 (repeat' ((conv=>whnf);first|(with_reducible refine ckIxS l hl ?_)|refine zG ?_|apply zA|(apply zI;intro h)|exact zT));(all_goals conv=>whnf)
 rw[<-first_any]at hK
 exact hK
theorem ckNt(i:Nt)(hb:Bnd i){K:KT}(hK:K (.sb (ntB i)) []):ACall Tryz.prog 45 [encNt i] [] K:=by
 have bg:=hb.g;have bs:=hb.s;have bw:=hb.w;have bt:=hb.t;have bp:=hb.p;have bh:=hb.h
 refine ACall.bool (ofiVal rfl rfl ?_)
 have hno:(NtOk i->False)->ntB i=false:=ntB_false
 (repeat' ((conv=>whnf);first|refine zG ?_|apply zA|(apply zI;intro h)|exact zT));(all_goals conv=>whnf)
 refine Jn.intro Unit (fun _=>⟨1,[(0,boxNt i)],[(1,.op 0 0)]⟩) (fun _=>DfsOk i.grps true/\DfsOk i.svcs false/\i.wins.length<=32/\i.sts.length<=64/\i.pubs.length<=16/\i.hids.length<=8) ?_ ?_
 ·have hG:∀{K:KT},K (.sb (dfsB i.grps true)) []->ACall Tryz.prog 75 [.lst (i.grps.map encDf),.v (.bool false)] [] K:=fun h=>ckDefsV i.grps false bg hb.gi h
  have hS:∀{K:KT},K (.sb (dfsB i.svcs false)) []->ACall Tryz.prog 75 [.lst (i.svcs.map encDf),.v (.bool true)] [] K:=fun h=>ckDefsV i.svcs true bs hb.si h
  (repeat' ((conv=>whnf);first|(with_reducible first|refine hG ?_|refine hS ?_)|refine zG ?_|apply zA|(apply zI;intro h)|exact zT));(all_goals conv=>whnf)
  all_goals first
   |(refine⟨(),⟨dfsB_iff.1 (by with_reducible assumption),dfsB_iff.1 (by with_reducible assumption),by simp only[List.length_map]at*;omega,by simp only[List.length_map]at*;omega,by simp only[List.length_map]at*;omega,by simp only[List.length_map]at*;omega⟩,?_⟩
     (exact leA)
     done)
   |(refine fin_f hK (hno fun hn=>?_)
     have n1:=hn.wl;have n2:=hn.tl;have n3:=hn.pl;have n4:=hn.hl
     (try simp only[List.length_map]at*)
     first
      |omega
      |(rw[dfsB_true hn.g]at h;cases h;done)
      |(rw[dfsB_true hn.s]at h;cases h;done))
 rintro⟨⟩ ⟨hg,hs,h1,h2,h3,h4⟩
 (repeat' ((conv=>whnf);first|refine zG ?_|apply zA|(apply zI;intro h)|exact zT));(all_goals conv=>whnf)
 refine Lp.intro Nat (fun n=>⟨1,[(0,boxNt i)],[(1,.op 0 0),(47,.lst (i.wins.map encWn)),(48,.v (.int .i64 (i.wins.map encWn).length)),(49,.v (.int .i64 n))]⟩) (fun n=>n<=i.wins.length/\∀(j:Nat) y,j<n->i.wins[j]? =some y->WnOk i.wins j y) (fun n=>i.wins.length-n) 0 ⟨Nat.zero_le _,fun i y hi=>absurd hi (Nat.not_lt_zero _)⟩ ?_ ?_
 ·(exact leA)
 intro n ⟨hn,hwin0⟩
 rcases Nat.lt_or_ge n i.wins.length with hnl|hnl
 ·obtain⟨x,hx⟩:=gex hnl
  have hxa:=hb.wi x (List.mem_of_getElem? hx)
  (repeat' ((conv=>whnf);first|(with_reducible first|refine in_map hnl ?_|refine ix_map hx ?_|refine ckWri _ hxa fun ss=>?_|refine csName _ ?_|refine ckWnd _ _ (by omega) ?_)|refine zG ?_|apply zA|(apply zI;intro h)|exact zT));(all_goals conv=>whnf)
  all_goals first
   |(refine⟨n+1,⟨hnl,all_succ hx ⟨by with_reducible assumption,by with_reducible assumption,winB_iff.1 (by with_reducible assumption)⟩ hwin0⟩,by omega,?_⟩
     rw[Int.natCast_add,Int.natCast_one]
     (exact leA)
     done)
   |(refine fin_f hK (hno fun hn=>?_)
     have n1:=hn.w n x hx
     have n2:=winB_iff.2 n1.act;have n3:=n1.name;have n4:=n1.first
     first
      |exact h n4
      |(rw[n2]at h;cases h;done)
      |(rw[n3]at h;cases h;done))
 have hwin:=before_all hnl hwin0
 (repeat' ((conv=>whnf);first|refine zG ?_|apply zA|(apply zI;intro h)|exact zT));(all_goals conv=>whnf)
 refine Lp.intro Nat (fun n=>⟨1,[(0,boxNt i)],[(1,.op 0 0),(79,.lst (i.pubs.map encPb)),(80,.v (.int .i64 (i.pubs.map encPb).length)),(81,.v (.int .i64 n))]⟩) (fun n=>n<=i.pubs.length/\∀(j:Nat) y,j<n->i.pubs[j]? =some y->pbB y=true) (fun n=>i.pubs.length-n) 0 ⟨Nat.zero_le _,fun i y hi=>absurd hi (Nat.not_lt_zero _)⟩ ?_ ?_
 ·(exact leA)
 intro n ⟨hn,hpub0⟩
 rcases Nat.lt_or_ge n i.pubs.length with hnl|hnl
 ·obtain⟨x,hx⟩:=gex hnl
  (repeat' ((conv=>whnf);first|(with_reducible first|refine in_map hnl ?_|refine ix_map hx ?_|refine ckPort _ ?_|refine csName _ ?_)|refine zG ?_|apply zA|(apply zI;intro h)|exact zT));(all_goals conv=>whnf)
  all_goals first
   |(refine⟨n+1,⟨hnl,all_succ hx (by unfold pbB;simp_all) hpub0⟩,by omega,?_⟩
     rw[Int.natCast_add,Int.natCast_one]
     (exact leA)
     done)
   |(refine fin_f hK (hno fun hn=>?_)
     have n1:=hn.p x (List.mem_of_getElem? hx)
     unfold pbB at n1
     simp_all)
 have hpub:=before_all hnl hpub0
 (repeat' ((conv=>whnf);first|refine zG ?_|apply zA|(apply zI;intro h)|exact zT));(all_goals conv=>whnf)
 refine Lp.intro Nat (fun n=>⟨1,[(0,boxNt i)],[(1,.op 0 0),(115,.lst (i.hids.map encHn)),(116,.v (.int .i64 (i.hids.map encHn).length)),(117,.v (.int .i64 n))]⟩) (fun n=>n<=i.hids.length/\∀(j:Nat) y,j<n->i.hids[j]? =some y->hnB y=true) (fun n=>i.hids.length-n) 0 ⟨Nat.zero_le _,fun i y hi=>absurd hi (Nat.not_lt_zero _)⟩ ?_ ?_
 ·(exact leA)
 intro n ⟨hn,hhid0⟩
 rcases Nat.lt_or_ge n i.hids.length with hnl|hnl
 ·obtain⟨x,hx⟩:=gex hnl
  (repeat' ((conv=>whnf);first|(with_reducible first|refine in_map hnl ?_|refine ix_map hx ?_|refine csName _ ?_)|refine zG ?_|apply zA|(apply zI;intro h)|exact zT));(all_goals conv=>whnf)
  all_goals first
   |(refine⟨n+1,⟨hnl,all_succ hx (by unfold hnB;simp_all) hhid0⟩,by omega,?_⟩
     rw[Int.natCast_add,Int.natCast_one]
     (exact leA)
     done)
   |(refine fin_f hK (hno fun hn=>?_)
     have n1:=hn.h x (List.mem_of_getElem? hx)
     unfold hnB at n1
     simp_all
     try omega)
 have hhid:=before_all hnl hhid0
 (repeat' ((conv=>whnf);first|(with_reducible refine ckAnS i.sts (by omega) ?_)|refine zG ?_|apply zA|(apply zI;intro h)|exact zT));(all_goals conv=>whnf)
 refine fin_s hK ?_
 have mem:∀{α:Type} {l:List α} {P:α->Prop},(∀(j:Nat) y,l[j]? =some y->P y)->∀x,x∈l->P x:=fun h x hx=>by
  obtain⟨j,hj⟩:=List.mem_iff_getElem?.1 hx
  exact h j x hj
 rw[Bool.eq_iff_iff,ntB_iff,Bool.not_eq_true',List.any_eq_false]
 constructor
 ·intro h x hx
  rw[h.t x hx];decide
 ·intro h
  exact⟨hg,hs,h1,h2,h3,h4,hwin,fun x hx=>by simpa using h x hx,mem hpub,mem hhid⟩
theorem fine_nil(l:List Df):Fine l [] []:=⟨List.Pairwise.nil,List.Pairwise.nil,Firsts.nil,Firsts.nil,fun n h=>(by cases h),fun n h=>(by cases h),fun n h=>(by cases h)⟩
theorem cwStart(t:Tp)(ht:t.edges.length<1000)(l:List Df)(hl:l.length<=999)(hit:∀d,d∈l->d.items.length<=999)(nm:ByteArray){K:KT}
  (hK:K (.v (.int .i64 (fol (visG t) l (l.length+1) [] nm [] []).1)) [adO 2,boxT t,outO 4 (fol (visG t) l (l.length+1) [] nm [] []).2.2.length,.box [],arrO (fol (visG t) l (l.length+1) [] nm [] []).2.2]):
  ACall Tryz.prog 86 [.lst (l.map encDf),.v (.string nm),.fn (.func 87) [] [.op 0 0,.op 1 0]] [adO 2,boxT t,outO 3 0,.arr 2 []] K:=by
 refine ofwStart rfl rfl ?_
 have hc:∀{K:KT},K (.v (.int .i64 (fol (visG t) l (l.length+1) [] nm [] []).1)) [foO l,.map (nameM l []),.map (nameM l (fol (visG t) l (l.length+1) [] nm [] []).2.1),adO 5,boxT t,outO 7 (fol (visG t) l (l.length+1) [] nm [] []).2.2.length,.box [],arrO (fol (visG t) l (l.length+1) [] nm [] []).2.2]->
   ACall Tryz.prog 144 [.op 0 0,.v (.string nm)] [foO l,.map (fun _=>none),.map (fun _=>none),adO 5,boxT t,outO 6 0,.arr 2 []] K:=fun {K} h=>by
  rw[nameM_nil l]
  exact cwFol t ht l hl hit (l.length+1) [] nm [] [] (fine_nil l) (by simp) (by simp) h
 (repeat' ((conv=>whnf);first|(with_reducible refine hc ?_)|refine zG ?_|apply zA|(apply zI;intro h)|exact zT));(all_goals conv=>whnf)
 exact hK
def grpE(t:Tp)(l:List Df)(nm:ByteArray):Int×List Rg:=
 if sEq nm ⟨#[]⟩=true then(0,t.edges.map fun e=>e.pf.rg)else((fol (visG t) l (l.length+1) [] nm [] []).1,(fol (visG t) l (l.length+1) [] nm [] []).2.2)
theorem cwUn0(a:List Rg)(ha:a.length<900){K:KT}(hK:∀c,Canon c->(∀v,has c v=has a v)->c.length<=a.length->K (encRs c) []):ACall Tryz.prog 85 [encRs a,.lst []] [] K:=
 c18 a [] ha (by simp) fun c h1 h2 h3=>hK c h1 (fun v=>by rw[h2];simp[has_nil]) (by simpa using h3)
theorem cwGrp(t:Tp)(ht:t.edges.length<900)(i:Nt)(hl:i.grps.length<=999)(hit:∀d,d∈i.grps->d.items.length<=999)(nm:ByteArray)(hb:(grpE t i.grps nm).1=0->(grpE t i.grps nm).2.length<900){K:KT}
  (hK1:(grpE t i.grps nm).1≠0->K (.tup [.lst [],.v (.int .i64 (grpE t i.grps nm).1)]) [])
  (hK2:(grpE t i.grps nm).1=0->∀c,Canon c->(∀v,has c v=has (grpE t i.grps nm).2 v)->c.length<=(grpE t i.grps nm).2.length->K (.tup [encRs c,.v (.int .i64 0)]) []):
  ACall Tryz.prog 46 [encT t,encNt i,.v (.string nm)] [] K:=by
 refine ACall.weak (ofwGrp rfl rfl ?_)
 unfold grpE at hb hK1 hK2
 by_cases hnm:sEq nm ⟨#[]⟩=true
 ·simp only[if_pos hnm]at hb hK1 hK2
  have hnm2:(nm.toList==(⟨#[]⟩:ByteArray).toList)=true:=hnm
  (repeat' ((conv=>whnf);first|refine zG ?_|apply zA|(apply zI;intro h)|exact zT));(all_goals conv=>whnf)
  all_goals first
   |skip
  refine Lp.intro (Nat×List Rg) (fun g=>⟨5,[(4,adO 2),(3,arrO g.2),(2,outO 3 g.2.length)],[(8,.op 2 0),(9,.op 4 0),(17,.lst (t.edges.map encE)),(18,.v (.int .i64 (t.edges.map encE).length)),(19,.v (.int .i64 g.1))]⟩)
   (fun g=>g.1<=t.edges.length/\g.2=(t.edges.take g.1).map fun e=>e.pf.rg) (fun g=>t.edges.length-g.1) (0,[]) ⟨Nat.zero_le _,rfl⟩ ?_ ?_
  ·(exact leA)
  rintro⟨k,out⟩ ⟨hk,ho⟩
  simp only at hk ho⊢
  have hol:out.length=k:=by rw[ho,List.length_map,List.length_take];omega
  rcases Nat.lt_or_ge k t.edges.length with hkl|hkl
  ·obtain⟨e,he⟩:=gex hkl
   (repeat' ((conv=>whnf);first|(with_reducible first|refine in_map hkl ?_|refine ix_map he ?_|refine cwAdd e.pf out (by omega) ?_)|refine zG ?_|apply zA|(apply zI;intro h)|exact zT));(all_goals conv=>whnf)
   refine⟨(k+1,out++[e.pf.rg]),⟨hkl,?_⟩,by simp only;omega,?_⟩
   ·simp only
    rw[ho,List.take_add_one,he,List.map_append]
    rfl
   ·simp only[Int.natCast_add,Int.natCast_one]
    (exact leA)
  ·have hke:k=t.edges.length:=by omega
   rw[hke,List.take_length]at ho
   rw[<-ho]at hK2
   (repeat' ((conv=>whnf);first|(with_reducible first|refine sl_full (List.length_map ..) ?_|refine cwUn0 out (by omega) fun c hc1 hc2 hc3=>?_)|refine zG ?_|apply zA|(apply zI;intro h)|exact zT));(all_goals conv=>whnf)
   exact⟨_,Weak.refl,hK2 trivial c hc1 hc2 hc3⟩
 ·simp only[if_neg hnm]at hb hK1 hK2
  have hnm2:(nm.toList==(⟨#[]⟩:ByteArray).toList)=false:=by simpa[sEq]using hnm
  have hc:=fun {K} h=>@cwStart t (by omega) i.grps hl hit nm K h
  generalize fol (visG t) i.grps (i.grps.length+1) [] nm [] []=q at*
  obtain⟨qe,qd,qs⟩:=q
  simp only at hb hK1 hK2 hc
  (repeat' ((conv=>whnf);first|(with_reducible first|refine hc ?_|refine sl_full (List.length_map ..) ?_|refine cwUn0 qs (hb (by assumption)) fun c hc1 hc2 hc3=>?_)|refine zG ?_|apply zA|(apply zI;intro h)|exact zT));(all_goals conv=>whnf)
  all_goals first
   |(exfalso;simp_all;done)
   |exact⟨_,Weak.refl,hK2 (by assumption) c hc1 hc2 hc3⟩
   |exact⟨_,Weak.tup2 Weak.nils Weak.refl,hK1 (by assumption)⟩
   |trace_state
def wgtD(l:List Df)(d:List Nat):Nat:=(d.map fun n=>((l[n]?).map fun x=>x.items.length).getD 0).sum
theorem wgtD_snoc{l:List Df}{d:List Nat}{n:Nat}{x:Df}(h:l[n]? =some x):wgtD l (d++[n])=wgtD l d+x.items.length:=by
 rw[wgtD,List.map_append,List.sum_append,<-wgtD];simp[h]
theorem wgtD_range(l:List Df):wgtD l (List.range l.length)=itsN l:=by
 unfold wgtD itsN
 congr 1
 refine List.ext_getElem (by simp) fun i h1 h2=>?_
 have:i<l.length:=by simpa using h2
 simp[List.getElem?_eq_getElem this]
theorem sum_erase{l:List Nat}{f:Nat->Nat}{x:Nat}(h:x∈l):(l.map f).sum=f x+((l.erase x).map f).sum:=by
 induction l with
 |nil=>simp at h
 |cons y l ih=>
  by_cases hy:y=x
  ·subst hy;simp
  ·have hx:x∈l:=by rcases List.mem_cons.1 h with h|h;exact absurd h.symm hy;exact h
   have e:(y::l).erase x=y::l.erase x:=by rw[List.erase_cons_tail (by simpa using hy)]
   rw[e,List.map_cons,List.sum_cons,ih hx,List.map_cons,List.sum_cons];omega
theorem sum_nodup{f:Nat->Nat}:∀{d m:List Nat},d.Nodup->(∀x,x∈d->x∈m)->(d.map f).sum<=(m.map f).sum
 |[],m,_,_=>Nat.zero_le _
 |x::d,m,hn,hs=>by
  obtain⟨h1,h2⟩:=List.nodup_cons.1 hn
  rw[sum_erase (hs x (by simp)),List.map_cons,List.sum_cons]
  have:=sum_nodup (f:=f) (m:=m.erase x) h2 fun y hy=>(List.mem_erase_of_ne (fun e=>h1 (by rw[<-e];exact hy))).2 (hs y (List.mem_cons_of_mem _ hy))
  omega
theorem wgtD_le{l:List Df}{d:List Nat}(hn:d.Nodup)(hl:∀n,n∈d->n<l.length):wgtD l d<=itsN l:=by
 rw[<-wgtD_range]
 exact sum_nodup hn fun x hx=>List.mem_range.2 (hl x hx)
section
variable {S:Type} (v:It->S->Int×S) (sz:S->Nat) (c:Nat) (hv:∀x s,(v x s).1=0->sz (v x s).2<=sz s+c)
structure Fit (l:List Df) (p d:List Nat) (s:S) (d':List Nat) (s':S) (k:Nat):Prop where
 fine:Fine l p d'
 size:sz s'+c*wgtD l d<=sz s+c*wgtD l d'+c*k
include hv
theorem folI_fit{l:List Df}{p:List Nat}{rec:ByteArray->List Nat->S->Int×List Nat×S}(hrec:∀nm d s,Fine l p d->(rec nm d s).1=0->Fit sz c l p d s (rec nm d s).2.1 (rec nm d s).2.2 0):
  ∀(its:List It) (d:List Nat) (s:S),Fine l p d->(folI v rec its d s).1=0->Fit sz c l p d s (folI v rec its d s).2.1 (folI v rec its d s).2.2 its.length
 |[],d,s,hf,_=>⟨hf,by simp[folI]⟩
 |x::r,d,s,hf,h=>by
  rw[folI_cons]at h⊢
  have hq:(if x.kind=3 then rec x.name d s else((v x s).1,d,(v x s).2)).1=0->Fit sz c l p d s (if x.kind=3 then rec x.name d s else((v x s).1,d,(v x s).2)).2.1 (if x.kind=3 then rec x.name d s else((v x s).1,d,(v x s).2)).2.2 1:=by
   by_cases hk:x.kind=3
   ·rw[if_pos hk]
    intro h0
    have:=hrec x.name d s hf h0
    exact⟨this.fine,by have:=this.size;omega⟩
   ·rw[if_neg hk]
    intro h0
    exact⟨hf,by have:=hv x s h0;simp only;omega⟩
  generalize (if x.kind=3 then rec x.name d s else((v x s).1,d,(v x s).2))=q at*
  by_cases h0:q.1=0
  ·rw[if_pos h0]at h⊢
   have hq:=hq h0
   have h2:=folI_fit hrec r q.2.1 q.2.2 hq.fine h
   exact⟨h2.fine,by have:=hq.size;have:=h2.size;rw[List.length_cons,Nat.mul_succ];omega⟩
  ·rw[if_neg h0]at h;exact absurd h h0
theorem fol_fit(l:List Df):∀(k:Nat) (p:List Nat) (nm:ByteArray) (d:List Nat) (s:S),Fine l p d->(fol v l k p nm d s).1=0->
  Fit sz c l p d s (fol v l k p nm d s).2.1 (fol v l k p nm d s).2.2 0
 |0,p,nm,d,s,hf,h=>by simp[fol]at h
 |k+1,p,nm,d,s,hf,h=>by
  unfold fol at h⊢
  cases hn:findD l nm with
  |none=>simp[hn]at h
  |some n=>
   simp only[hn]at h⊢
   split at h
   ·simp at h
   rename_i hp
   rw[if_neg hp]
   split at h
   ·rename_i hd
    rw[if_pos hd]
    exact⟨hf,by simp⟩
   rename_i hd
   rw[if_neg hd]
   obtain⟨df,hdf,_⟩:=findD_some hn
   simp only[hdf,Option.map_some,Option.getD_some]at h⊢
   have hpush:=hf.push hn hp hd
   split at h
   ·rename_i h0
    rw[if_pos h0]
    have h1:=folI_fit v sz c hv (fun nm d s hf h=>fol_fit l k (p++[n]) nm d s hf h) df.items d s hpush h0
    refine⟨h1.fine.pop hn,?_⟩
    have:=h1.size
    simp only
    rw[wgtD_snoc hdf,Nat.mul_add]
    omega
   ·rename_i h0;exact absurd h h0
theorem fol_all(l:List Df)(nm:ByteArray)(s:S)(h:(fol v l (l.length+1) [] nm [] s).1=0):sz (fol v l (l.length+1) [] nm [] s).2.2<=sz s+c*itsN l:=by
 have h1:=fol_fit v sz c hv l (l.length+1) [] nm [] s (fine_nil l) h
 have h2:=wgtD_le h1.fine.dn h1.fine.dl
 have h3:=h1.size
 have h4:=Nat.mul_le_mul_left c h2
 have h5:wgtD l []=0:=rfl
 rw[h5]at h3
 omega
end
theorem grpE_len{t:Tp}{l:List Df}{nm:ByteArray}(h12:t.edges.length<=12)(h:(grpE t l nm).1=0):(grpE t l nm).2.length<=12+12*itsN l:=by
 unfold grpE at h⊢
 split
 ·simp only[List.length_map];omega
 ·rename_i hn
  rw[if_neg hn]at h
  have:=fol_all (visG t) List.length 12 (fun x s h0=>by
   unfold visG at h0⊢
   have hll:=ixs_len (fun e=>sEq e.zone x.name) t.edges t.edges.length
   split
   ·rw[List.length_append];simp
   ·split
    ·simp
    ·rw[List.length_append,List.length_map];omega) l nm [] h
  simp only[List.length_nil]at this⊢
  omega
noncomputable def grpP(t:Tp)(i:Nt)(nm:ByteArray):List Rg×Int:=if(grpE t i.grps nm).1=0 then(canO (has (grpE t i.grps nm).2),0)else([],(grpE t i.grps nm).1)
def svcGo:List It->List Bx->List Bx×Int
 |[],s=>(s,0)
 |x::r,s=>if(combP anB initS [hdrX x]).2≠0 then([],(combP anB initS [hdrX x]).2)else if(combP orB s (combP anB initS [hdrX x]).1).2≠0 then([],(combP orB s (combP anB initS [hdrX x]).1).2)else svcGo r (combP orB s (combP anB initS [hdrX x]).1).1
def svcF(l:List Df)(nm:ByteArray):Int×List It:=((fol visS l (l.length+1) [] nm [] []).1,(fol visS l (l.length+1) [] nm [] []).2.2)
def svcP(i:Nt)(nm:ByteArray):List Bx×Int:=if sEq nm ⟨#[]⟩=true then(initS,0)else if(svcF i.svcs nm).1≠0 then([],(svcF i.svcs nm).1)else svcGo (svcF i.svcs nm).2 []
def bindE{α:Type}(x:α×Int)(k:α->List Bx×Int):List Bx×Int:=if x.2≠0 then([],x.2)else k x.1
theorem bindE_ok{α:Type}{x:α×Int}{k:α->List Bx×Int}(h:x.2=0):bindE x k=k x.1:=by rw[bindE,if_neg (by omega)]
theorem bindE_no{α:Type}{x:α×Int}{k:α->List Bx×Int}(h:x.2≠0):bindE x k=([],x.2):=by rw[bindE,if_pos h]
noncomputable def stmP(t:Tp)(i:Nt)(s:Sm):List Bx×Int:=
 bindE (grpP t i s.frm) fun f=>bindE (grpP t i s.to) fun g=>bindE (svcP i s.svc) fun v=>
 bindE (if s.exc then grpP t i s.exF else([],0)) fun o=>bindE (if s.exc then grpP t i s.exT else([],0)) fun n=>
 bindE (makeP (btwB f g)) fun b=>if(combP anB b v).2≠0\/s.exc=false then combP anB b v else
 bindE (makeP (btwB o n)) fun b2=>combP woB (combP anB b v).1 b2
def namE(t:Tp)(i:Nt)(s:Sm):Int:=
 if(sEq s.cls ⟨#[]⟩||t.devs.any fun d=>sEq d.cls s.cls)&&(sEq s.dur ⟨#[]⟩||i.wins.any fun w=>sEq w.name s.dur)then 0 else 5
def fstE{α:Type}(f:α->Int):List α->Int
 |[]=>0
 |x::l=>if f x≠0 then f x else fstE f l
noncomputable def chkP(t:Tp)(i:Nt):Int:=
 let a:=fstE (fun d:Df=>(grpP t i d.name).2) i.grps
 if a≠0 then a else
 let b:=fstE (fun d:Df=>(svcP i d.name).2) i.svcs
 if b≠0 then b else
 let c:=fstE (fun s:Sm=>if(stmP t i s).2≠0 then(stmP t i s).2 else namE t i s) i.sts
 if c≠0 then c else
 let d:=fstE (fun p:Pb=>if edgeIx t.edges p.edge<0 then 5 else 0) i.pubs
 if d≠0 then d else
 fstE (fun h:Hn=>if edgeIx t.edges h.edge<0 then 5 else(grpP t i h.grp).2) i.hids
theorem setBlen{s:List Bx}(h:setB s=true):s.length<1000000000:=by have:=(setB_pset h).len;omega
theorem comp_edges{t:Tp}(hc:compB t=true):t.edges.length<=12:=(compB_iff.1 hc).1.e1
theorem crGrp(t:Tp)(hc:compB t=true)(i:Nt)(hb:Bnd i)(nm:ByteArray){K:KT}(hK:K (.tup [encRs (grpP t i nm).1,.v (.int .i64 (grpP t i nm).2)]) []):ACall Tryz.prog 46 [encT t,encNt i,.v (.string nm)] [] K:=by
 have h12:=comp_edges hc
 have hits:=hb.its
 refine cwGrp t (by omega) i hb.g hb.gi nm (fun h=>?_) (fun h=>?_) fun h c hc hh hl=>?_
 ·have:=grpE_len (l:=i.grps) h12 h;omega
 ·rw[grpP,if_neg h]at hK;exact hK
 ·rw[grpP,if_pos h,canO_eq hc hh]at hK;exact hK
theorem grpP_len{t:Tp}(hc:compB t=true){i:Nt}(hb:Bnd i)(nm:ByteArray):(grpP t i nm).1.length<=860:=by
 have h12:=comp_edges hc
 have hits:=hb.its
 unfold grpP
 split
 ·rename_i h
  have:=grpE_len (l:=i.grps) h12 h
  have:=canO_len (grpE t i.grps nm).2
  simp only;omega
 ·exact Nat.zero_le _
theorem cwStS(l:List Df)(hl:l.length<=999)(hit:∀d,d∈l->d.items.length<=999)(nm:ByteArray){K:KT}
  (hK:K (.v (.int .i64 (svcF l nm).1)) [itO 2 (svcF l nm).2.length,.box [],arI (svcF l nm).2]):
  ACall Tryz.prog 86 [.lst (l.map encDf),.v (.string nm),.fn (.func 93) [] [.op 0 0]] [itO 1 0,.arr 7 []] K:=by
 refine ofwStS rfl rfl ?_
 unfold svcF at hK
 have hc:∀{K:KT},K (.v (.int .i64 (fol visS l (l.length+1) [] nm [] []).1)) [fsO l,.map (nameM l []),.map (nameM l (fol visS l (l.length+1) [] nm [] []).2.1),itO 5 (fol visS l (l.length+1) [] nm [] []).2.2.length,.box [],arI (fol visS l (l.length+1) [] nm [] []).2.2]->
   ACall Tryz.prog 144 [.op 0 0,.v (.string nm)] [fsO l,.map (fun _=>none),.map (fun _=>none),itO 4 0,.arr 7 []] K:=fun {K} h=>by
  rw[nameM_nil l]
  exact cwFos l hl hit (l.length+1) [] nm [] [] (fine_nil l) (by simp) (by simp) h
 (repeat' ((conv=>whnf);first|(with_reducible refine hc ?_)|refine zG ?_|apply zA|(apply zI;intro h)|exact zT));(all_goals conv=>whnf)
 exact hK
theorem svcF_len{l:List Df}{nm:ByteArray}(h:(svcF l nm).1=0):(svcF l nm).2.length<=itsN l:=by
 unfold svcF at h⊢
 have:=fol_all visS List.length 1 (fun x s _=>by simp[visS]) l nm [] h
 simp only[List.length_nil]at this
 simp only;omega
theorem svcGo_drop{x:It}{r:List It}{s:List Bx}:svcGo (x::r) s=if(combP anB initS [hdrX x]).2≠0 then([],(combP anB initS [hdrX x]).2)else if(combP orB s (combP anB initS [hdrX x]).1).2≠0 then([],(combP orB s (combP anB initS [hdrX x]).1).2)else svcGo r (combP orB s (combP anB initS [hdrX x]).1).1:=rfl
theorem crSvc(i:Nt)(hb:Bnd i)(nm:ByteArray){K:KT}(hK:K (.tup [encXs (svcP i nm).1,.v (.int .i64 (svcP i nm).2)]) []):ACall Tryz.prog 50 [encNt i,.v (.string nm)] [] K:=by
 refine ACall.weak (ofwSvc rfl rfl ?_)
 unfold svcP at hK
 by_cases hnm:sEq nm ⟨#[]⟩=true
 ·rw[if_pos hnm]at hK
  have hnm2:(nm.toList==(⟨#[]⟩:ByteArray).toList)=true:=hnm
  (repeat' ((conv=>whnf);first|(with_reducible refine cxInit ?_)|refine zG ?_|apply zA|(apply zI;intro h)|exact zT));(all_goals conv=>whnf)
  exact⟨_,Weak.refl,hK⟩
 ·rw[if_neg hnm]at hK
  have hnm2:(nm.toList==(⟨#[]⟩:ByteArray).toList)=false:=by simpa[sEq]using hnm
  have hc:=fun {K} h=>@cwStS i.svcs hb.s hb.si nm K h
  have hlen:=svcF_len (l:=i.svcs) (nm:=nm)
  have hsn:=hb.sits
  generalize svcF i.svcs nm=q at*
  obtain⟨qe,its⟩:=q
  simp only at hK hc hlen
  (repeat' ((conv=>whnf);first|(with_reducible refine hc ?_)|refine zG ?_|apply zA|(apply zI;intro h)|exact zT));(all_goals conv=>whnf)
  ·rw[if_neg (by omega)]at hK
   have hlen:=hlen h
   refine Lp.intro (Nat×List Bx) (fun g=>⟨4,[],[(8,encXs g.2),(25,.lst (its.map encIt)),(26,.v (.int .i64 (its.map encIt).length)),(27,.v (.int .i64 g.1))]⟩) (fun g=>g.1<=its.length/\setB g.2=true/\svcGo its []=svcGo (its.drop g.1) g.2) (fun g=>its.length-g.1) (0,[]) ⟨Nat.zero_le _,setB_nil,by rw[List.drop_zero]⟩ ?_ ?_
   ·(exact leA)
   rintro⟨k,s⟩ ⟨hk,hs,heq⟩
   simp only at hk hs heq⊢
   have hsl:=setBlen hs
   rcases Nat.lt_or_ge k its.length with hkl|hkl
   ·obtain⟨x,hx⟩:=gex hkl
    have hd:its.drop k=x::its.drop (k+1):=by
     rw[List.getElem?_eq_getElem hkl]at hx
     rw[<-Option.some.inj hx,<-List.drop_eq_getElem_cons hkl]
    rw[hd,svcGo_drop]at heq
    have hq:∀{K:KT},K (.tup [encXs (combP anB initS [hdrX x]).1,.v (.int .i64 (combP anB initS [hdrX x]).2)]) []->ACall Tryz.prog 95 [encXs initS,.lst [.agg [.v (.int .u32 fullB.r0.lo),.v (.int .u32 fullB.r0.hi),.v (.int .u32 fullB.r1.lo),.v (.int .u32 fullB.r1.hi),.v (.int .u32 (wu x.proto)),.v (.int .u32 (wu x.proto)),.v (.int .u32 fullB.r3.lo),.v (.int .u32 fullB.r3.hi),.v (.int .u32 x.ports.lo),.v (.int .u32 x.ports.hi)]]] [] K:=fun {K} h=>@cxInt initS [hdrX x] (by decide) (by simp) K h
    have hsA:=setB_combP anB initS [hdrX x]
    have hsB:=setB_combP orB s (combP anB initS [hdrX x]).1
    have hu:=fun {K} h=>@cxUn s (combP anB initS [hdrX x]).1 (by omega) (by have:=setBlen hsA;omega) K h
    generalize combP orB s (combP anB initS [hdrX x]).1=B at*
    generalize combP anB initS [hdrX x]=A at*
    obtain⟨As,Ae⟩:=A
    obtain⟨Bs,Be⟩:=B
    simp only at heq hsA hsB hu hq
    (repeat' ((conv=>whnf);first|(with_reducible first|refine in_map hkl ?_|refine ix_map hx ?_|refine cxFull ?_)|(refine in_c (by decide) ?_)|(with_reducible first|refine wr_u32_eq ?_|refine cxInit ?_)|(refine sl_full (by rfl) ?_)|(with_reducible first|refine hq ?_|refine hu ?_)|refine zG ?_|apply zA|(apply zI;intro h)|exact zT));(all_goals conv=>whnf)
    all_goals first
     |(rw[if_neg (fun hn=>hn (by with_reducible assumption)),if_neg (fun hn=>hn (by with_reducible assumption))]at heq
       refine⟨(k+1,Bs),⟨hkl,hsB,heq⟩,by simp only;omega,?_⟩
       simp only[Int.natCast_add,Int.natCast_one]
       (exact leA)
       done)
     |(rw[if_pos h]at heq
       rw[heq]at hK
       exact⟨_,Weak.tup2 Weak.nils Weak.refl,hK⟩)
     |(rw[if_neg (fun hn=>hn (by with_reducible assumption)),if_pos h]at heq
       rw[heq]at hK
       exact⟨_,Weak.tup2 Weak.nils Weak.refl,hK⟩)
   ·rw[List.drop_of_length_le hkl]at heq
    rw[heq]at hK
    (repeat' ((conv=>whnf);first|refine zG ?_|apply zA|(apply zI;intro h)|exact zT));(all_goals conv=>whnf)
    exact⟨_,Weak.refl,hK⟩
  ·rw[if_pos (by assumption)]at hK
   exact⟨_,Weak.tup2 Weak.nils Weak.refl,hK⟩
theorem svcGo_set:∀(its:List It) (s:List Bx),setB s=true->setB (svcGo its s).1=true
 |[],s,h=>h
 |x::r,s,h=>by
  rw[svcGo_drop]
  split
  ·exact setB_nil
  ·split
   ·exact setB_nil
   ·exact svcGo_set r _ (setB_combP ..)
theorem svcP_set(i:Nt)(nm:ByteArray):setB (svcP i nm).1=true:=by
 unfold svcP
 split
 ·exact init_set
 ·split
  ·exact setB_nil
  ·exact svcGo_set _ _ setB_nil
theorem bwB_snoc(a:List Rg)(r:Rg)(b:List Rg):btwB (a++[r]) b=btwB a b++b.map fun s=>btwX r s:=by simp[btwB]
theorem bwB_len(b:List Rg):∀a:List Rg,(btwB a b).length=a.length*b.length
 |[]=>by simp[btwB]
 |r::a=>by
  have:=bwB_len b a
  simp only[btwB,List.flatMap_cons,List.length_append,List.length_map,List.length_cons,Nat.succ_mul]at*
  omega
theorem crBtw(a b:List Rg)(ha:a.length<=860)(hb:b.length<=860){K:KT}(hK:K (.tup [encXs (makeP (btwB a b)).1,.v (.int .i64 (makeP (btwB a b)).2)]) []):ACall Tryz.prog 122 [encRs a,encRs b] [] K:=by
 refine ofrBtw rfl rfl ?_
 (repeat' ((conv=>whnf);first|refine zG ?_|apply zA|(apply zI;intro h)|exact zT));(all_goals conv=>whnf)
 refine Lp.intro Nat (fun i=>⟨1,[(0,.arr 10 ((btwB (a.take i) b).map encX))],[(1,encRs b),(6,.os 0 10 0 (btwB (a.take i) b).length),(12,encRs a),(13,.v (.int .i64 (a.map encR).length)),(14,.v (.int .i64 i))]⟩) (fun i=>i<=a.length) (fun i=>a.length-i) 0 (Nat.zero_le _) ?_ ?_
 ·rw[List.take_zero,show btwB [] b=[]from rfl]
  (exact leA)
 intro i hi
 have hl:=bwB_len b (a.take i)
 have hm:(a.take i).length*b.length<=860*860:=Nat.mul_le_mul (by rw[List.length_take];omega) hb
 rcases Nat.lt_or_ge i a.length with hil|hil
 ·obtain⟨r,hr⟩:=gex hil
  have hs:btwB (a.take (i+1)) b=btwB (a.take i) b++b.map fun s=>btwX r s:=by rw[List.take_add_one,hr];exact bwB_snoc ..
  generalize btwB (a.take i) b=A at*
  (repeat' ((conv=>whnf);first|(with_reducible first|refine in_map hil ?_|refine ix_map hr ?_)|refine zG ?_|apply zA|(apply zI;intro h)|exact zT));(all_goals conv=>whnf)
  refine Lp.intro Nat (fun k=>⟨2,[(0,.arr 10 ((A++(b.take k).map fun s=>btwX r s).map encX)),(1,.box [.v (.int .u32 r.lo),.v (.int .u32 r.hi)])],[(1,encRs b),(6,.os 0 10 0 (A++(b.take k).map fun s=>btwX r s).length),(8,.op 1 0),(12,encRs a),(13,.v (.int .i64 (a.map encR).length)),(14,.v (.int .i64 i)),(18,encRs b),(19,.v (.int .i64 (b.map encR).length)),(20,.v (.int .i64 k))]⟩) (fun k=>k<=b.length) (fun k=>b.length-k) 0 (Nat.zero_le _) ?_ ?_
  ·rw[List.take_zero,List.map_nil,List.append_nil]
   (exact leA)
  intro k hk
  rcases Nat.lt_or_ge k b.length with hkl|hkl
  ·obtain⟨s,hs2⟩:=gex hkl
   have hap:(A++(b.take (k+1)).map fun s=>btwX r s)=(A++(b.take k).map fun s=>btwX r s)++[btwX r s]:=by rw[List.take_add_one,hs2];simp
   have hlen:(A++(b.take k).map fun s=>btwX r s).length<=1000000:=by rw[List.length_append,List.length_map,List.length_take];omega
   generalize hB:(A++(b.take (k+1)).map fun s=>btwX r s)=B at*
   generalize (A++(b.take k).map fun s=>btwX r s)=C at*
   (repeat' ((conv=>whnf);first|(with_reducible first|refine cxFull ?_|refine in_map hkl ?_|refine ix_map hs2 ?_)|(refine in_c (by decide) ?_)|(refine sl_full (by rfl) ?_)|refine zG ?_|apply zA|(apply zI;intro h)|exact zT));(all_goals conv=>whnf)
   all_goals
    refine⟨k+1,hkl,by omega,?_⟩
    rw[hB,hap,List.map_append,List.length_append,Int.natCast_add k,Int.natCast_one]
    (exact leA)
  ·(repeat' ((conv=>whnf);first|refine zG ?_|apply zA|(apply zI;intro h)|exact zT));(all_goals conv=>whnf)
   have hke:k=b.length:=by omega
   rw[hke,List.take_length,<-hs]
   refine⟨i+1,hil,by omega,?_⟩
   rw[Int.natCast_add i,Int.natCast_one]
   (exact leA)
 ·have hie:i=a.length:=by omega
  have hbl:(btwB a b).length<1000000000:=by
   have:=Nat.mul_le_mul ha hb
   rw[bwB_len];omega
  rw[hie,List.take_length]
  have hfull:((btwB a b).map encX).length=(btwB a b).length:=List.length_map ..
  (repeat' ((conv=>whnf);first|(with_reducible first|refine sl_full hfull ?_|refine cxMake (btwB a b) hbl ?_)|refine zG ?_|apply zA|(apply zI;intro h)|exact zT));(all_goals conv=>whnf)
  exact hK
theorem crStm(t:Tp)(hc:compB t=true)(i:Nt)(hb:Bnd i)(s:Sm){K:KT}(hK:K (.tup [encXs (stmP t i s).1,.v (.int .i64 (stmP t i s).2)]) []):ACall Tryz.prog 67 [encT t,encNt i,encSm s] [] K:=by
 refine ACall.weak (ofrStm rfl rfl ?_)
 have hl:=fun nm=>grpP_len hc hb nm
 have hg:=fun(nm:ByteArray) {K:KT} h=>@crGrp t hc i hb nm K h
 unfold stmP at hK
 have l1:=hl s.frm;have l2:=hl s.to;have l4:=hl s.exF;have l5:=hl s.exT
 have g1:=fun {K} h=>@hg s.frm K h
 have g2:=fun {K} h=>@hg s.to K h
 have g4:=fun {K} h=>@hg s.exF K h
 have g5:=fun {K} h=>@hg s.exT K h
 have g3:=fun {K} h=>@crSvc i hb s.svc K h
 have s3:=svcP_set i s.svc
 generalize grpP t i s.frm=F at*
 generalize grpP t i s.to=G at*
 generalize grpP t i s.exF=O at*
 generalize grpP t i s.exT=N at*
 generalize svcP i s.svc=V at*
 obtain⟨Fs,Fe⟩:=F
 obtain⟨Gs,Ge⟩:=G
 obtain⟨Os,Oe⟩:=O
 obtain⟨Ns,Ne⟩:=N
 obtain⟨Vs,Ve⟩:=V
 simp only at l1 l2 l4 l5 g1 g2 g3 g4 g5 s3 hK
 (repeat' ((conv=>whnf);first|(with_reducible first|refine g1 ?_|refine g2 ?_|refine g3 ?_)|refine zG ?_|apply zA|(apply zI;intro h)|exact zT));(all_goals conv=>whnf)
 rotate_left
 ·rw[bindE_ok (x:=(Fs,Fe)) (by with_reducible assumption),bindE_ok (x:=(Gs,Ge)) (by with_reducible assumption),bindE_no (x:=(Vs,Ve)) h]at hK
  exact⟨_,Weak.tup2 Weak.nils Weak.refl,hK⟩
 ·rw[bindE_ok (x:=(Fs,Fe)) (by with_reducible assumption),bindE_no (x:=(Gs,Ge)) h]at hK
  exact⟨_,Weak.tup2 Weak.nils Weak.refl,hK⟩
 ·rw[bindE_no (x:=(Fs,Fe)) h]at hK
  exact⟨_,Weak.tup2 Weak.nils Weak.refl,hK⟩
 rw[bindE_ok (x:=(Fs,Fe)) (by with_reducible assumption),bindE_ok (x:=(Gs,Ge)) (by with_reducible assumption),bindE_ok (x:=(Vs,Ve)) h]at hK
 simp only at hK
 have hvl:=setBlen s3
 have b1:=fun {K} h=>@crBtw Fs Gs l1 l2 K h
 have sB:=setB_makeP (btwB Fs Gs)
 have i1:=fun {K} h=>@cxInt (makeP (btwB Fs Gs)).1 Vs (setBlen sB) hvl K h
 have sC:=setB_combP anB (makeP (btwB Fs Gs)).1 Vs
 have b2:=fun {K} h=>@crBtw Os Ns l4 l5 K h
 have sD:=setB_makeP (btwB Os Ns)
 have i2:=fun {K} h=>@cxSub (combP anB (makeP (btwB Fs Gs)).1 Vs).1 (makeP (btwB Os Ns)).1 (setBlen sC) (setBlen sD) K h
 by_cases hex:s.exc=true
 ·simp only[hex,if_true]at hK
  refine Jn.intro Unit (fun _=>⟨3,[(2,.box [.sb s.permit,.v (.string s.frm),.v (.string s.to),.v (.string s.svc),.sb s.exc,.v (.string s.exF),.v (.string s.exT),.v (.string s.cls),.v (.string s.dur),.v (.int .i64 s.pri)])],[(5,.op 2 0),(8,encRs Fs),(10,encRs Gs),(11,encXs Vs),(12,encRs Os),(13,encRs Ns)]⟩) (fun _=>Oe=0/\Ne=0) ?_ ?_
  ·(repeat' ((conv=>whnf);first|(with_reducible first|refine g4 ?_|refine g5 ?_)|refine zG ?_|apply zA|(apply zI;intro h)|exact zT));(all_goals conv=>whnf)
   all_goals first
    |(refine⟨(),⟨by with_reducible assumption,by with_reducible assumption⟩,?_⟩
      (exact leA)
      done)
    |(rw[bindE_no (x:=(Os,Oe)) h]at hK
      exact⟨_,Weak.tup2 Weak.nils Weak.refl,hK⟩)
    |(rw[bindE_ok (x:=(Os,Oe)) (by with_reducible assumption),bindE_no (x:=(Ns,Ne)) h]at hK
      exact⟨_,Weak.tup2 Weak.nils Weak.refl,hK⟩)
  rintro⟨⟩ ⟨h1,h2⟩
  rw[bindE_ok (x:=(Os,Oe)) h1,bindE_ok (x:=(Ns,Ne)) h2]at hK
  simp only at hK
  generalize makeP (btwB Fs Gs)=B at*
  generalize makeP (btwB Os Ns)=D at*
  generalize hC:combP anB B.1 Vs=C at*
  generalize hX:combP woB C.1 D.1=X at*
  obtain⟨Bs,Be⟩:=B
  obtain⟨Cs,Ce⟩:=C
  obtain⟨Ds,De⟩:=D
  obtain⟨Xs,Xe⟩:=X
  simp only at b1 i1 b2 i2 hK hC hX
  (repeat' ((conv=>whnf);first|(with_reducible first|refine b1 ?_|refine i1 ?_|refine b2 ?_|refine i2 ?_)|refine zG ?_|apply zA|(apply zI;intro h)|exact zT));(all_goals conv=>whnf)
  ·rw[bindE_ok (x:=(Bs,Be)) (by with_reducible assumption)]at hK
   simp only[hC]at hK
   rw[if_neg (fun hh=>hh.elim (fun hn=>hn (by with_reducible assumption)) (fun hn=>by cases hn)),bindE_ok (x:=(Ds,De)) h]at hK
   simp only[hX]at hK
   exact⟨_,Weak.refl,hK⟩
  ·rw[bindE_ok (x:=(Bs,Be)) (by with_reducible assumption)]at hK
   simp only[hC]at hK
   rw[if_neg (fun hh=>hh.elim (fun hn=>hn (by with_reducible assumption)) (fun hn=>by cases hn)),bindE_no (x:=(Ds,De)) h]at hK
   exact⟨_,Weak.tup2 Weak.nils Weak.refl,hK⟩
  ·rw[bindE_ok (x:=(Bs,Be)) (by with_reducible assumption)]at hK
   simp only[hC]at hK
   rw[if_pos (.inl h)]at hK
   exact⟨_,Weak.refl,hK⟩
  ·rw[bindE_no (x:=(Bs,Be)) h]at hK
   exact⟨_,Weak.tup2 Weak.nils Weak.refl,hK⟩
 ·have hexf:s.exc=false:=by simpa using hex
  simp only[hexf,Bool.false_eq_true,if_false]at hK
  rw[bindE_ok (x:=(([]:List Rg),(0:Int))) rfl,bindE_ok (x:=(([]:List Rg),(0:Int))) rfl]at hK
  refine Jn.at ⟨3,[(2,.box [.sb s.permit,.v (.string s.frm),.v (.string s.to),.v (.string s.svc),.sb s.exc,.v (.string s.exF),.v (.string s.exT),.v (.string s.cls),.v (.string s.dur),.v (.int .i64 s.pri)])],[(5,.op 2 0),(8,encRs Fs),(10,encRs Gs),(11,encXs Vs)]⟩ ?_ ?_
  ·(repeat' ((conv=>whnf);first|refine zG ?_|apply zA|(apply zI;intro h)|exact zT));(all_goals conv=>whnf)
   refine⟨(),trivial,?_⟩
   (exact leA)
  simp only at hK
  generalize makeP (btwB Fs Gs)=B at*
  generalize hC:combP anB B.1 Vs=C at*
  obtain⟨Bs,Be⟩:=B
  obtain⟨Cs,Ce⟩:=C
  simp only at b1 i1 hK hC
  (repeat' ((conv=>whnf);first|(with_reducible first|refine b1 ?_|refine i1 ?_)|refine zG ?_|apply zA|(apply zI;intro h)|exact zT));(all_goals conv=>whnf)
  all_goals first
   |(rw[bindE_no (x:=(Bs,Be)) h]at hK
     exact⟨_,Weak.tup2 Weak.nils Weak.refl,hK⟩)
   |(rw[bindE_ok (x:=(Bs,Be)) (by with_reducible assumption)]at hK
     simp only[hC,or_true,if_true,ite_self]at hK
     exact⟨_,Weak.refl,hK⟩)
   |trace_state
noncomputable def grpV(t:Tp)(i:Nt)(nm:ByteArray):List Rg×Int:=if compB t=true/\ntB i=true then grpP t i nm else([],1)
noncomputable def svcV(i:Nt)(nm:ByteArray):List Bx×Int:=if ntB i=true then svcP i nm else([],1)
theorem crGroup(t:Tp)(ht:t.edges.length<1000000)(i:Nt)(hb:Bnd i)(nm:ByteArray){K:KT}(hK:K (.tup [encRs (grpV t i nm).1,.v (.int .i64 (grpV t i nm).2)]) []):ACall Tryz.prog 13 [encT t,encNt i,.v (.string nm)] [] K:=by
 refine ACall.weak (ofwGroup rfl rfl ?_)
 unfold grpV at hK
 by_cases hc:compB t=true
 ·have hg:=fun {K} h=>@crGrp t hc i hb nm K h
  (repeat' ((conv=>whnf);first|(with_reducible first|refine ctComp t ht ?_|refine ckNt i hb ?_|refine hg ?_)|refine zG ?_|apply zA|(apply zI;intro h)|exact zT));(all_goals conv=>whnf)
  all_goals first
   |(rw[if_pos ⟨hc,h⟩]at hK
     exact⟨_,Weak.refl,hK⟩)
   |(rw[if_neg (fun hh=>by rw[hh.2]at h;cases h)]at hK
     exact⟨_,Weak.tup2 Weak.nils Weak.refl,hK⟩)
   |trace_state
 ·have hcf:compB t=false:=by simpa using hc
  rw[if_neg (fun hh=>hc hh.1)]at hK
  (repeat' ((conv=>whnf);first|(with_reducible refine ctComp t ht ?_)|refine zG ?_|apply zA|(apply zI;intro h)|exact zT));(all_goals conv=>whnf)
  exact⟨_,Weak.tup2 Weak.nils Weak.refl,hK⟩
theorem crService(i:Nt)(hb:Bnd i)(nm:ByteArray){K:KT}(hK:K (.tup [encXs (svcV i nm).1,.v (.int .i64 (svcV i nm).2)]) []):ACall Tryz.prog 24 [encNt i,.v (.string nm)] [] K:=by
 refine ACall.weak (ofrService rfl rfl ?_)
 unfold svcV at hK
 (repeat' ((conv=>whnf);first|(with_reducible first|refine ckNt i hb ?_|refine crSvc i hb nm ?_)|refine zG ?_|apply zA|(apply zI;intro h)|exact zT));(all_goals conv=>whnf)
 all_goals first
  |(rw[if_pos h]at hK
    exact⟨_,Weak.refl,hK⟩)
  |(rw[if_neg (fun hh=>by rw[hh]at h;cases h)]at hK
    exact⟨_,Weak.tup2 Weak.nils Weak.refl,hK⟩)
  |trace_state
noncomputable abbrev celSm(s:Sm):List AV:=[.sb s.permit,.v (.string s.frm),.v (.string s.to),.v (.string s.svc),.sb s.exc,.v (.string s.exF),.v (.string s.exT),.v (.string s.cls),.v (.string s.dur),.v (.int .i64 s.pri)]
theorem crNam1(d:Dv)(s:Sm){K:KT}(hK:K (.sb (sEq d.cls s.cls)) []):ACall Tryz.prog 148 [encD d,.fp (celSm s)] [] K:=by
 refine ofrNam1 rfl rfl ?_
 (repeat' ((conv=>whnf);first|refine zG ?_|apply zA|(apply zI;intro h)|exact zT));(all_goals conv=>whnf)
 exact hK
theorem crNam2(d:Wn)(s:Sm){K:KT}(hK:K (.sb (sEq d.name s.dur)) []):ACall Tryz.prog 150 [encWn d,.fp (celSm s)] [] K:=by
 refine ofrNam2 rfl rfl ?_
 (repeat' ((conv=>whnf);first|refine zG ?_|apply zA|(apply zI;intro h)|exact zT));(all_goals conv=>whnf)
 exact hK
theorem crAnD(l:List Dv)(s:Sm)(hl:l.length<1000000){K:KT}(hK:K (.sb (l.any fun d=>sEq d.cls s.cls)) []):
  ACall Tryz.prog 147 [.lst (l.map encD),.fn (.func 148) [] [.fp (celSm s)]] [] K:=by
 have hc:∀{K:KT},K (.v (.int .i64 (firstIx (fun d:Dv=>sEq d.cls s.cls) l))) []->ACall Tryz.prog 175 [.lst (l.map encD),.fn (.func 148) [] [.fp (celSm s)]] [] K:=fun h=>cixDev l _ _ (fun d=>sEq d.cls s.cls) (fun x K h=>crNam1 x s h) hl h
 refine ofrAnD rfl rfl ?_
 (repeat' ((conv=>whnf);first|(with_reducible refine hc ?_)|refine zG ?_|apply zA|(apply zI;intro h)|exact zT));(all_goals conv=>whnf)
 rw[<-first_any]at hK
 exact hK
theorem crAnW(l:List Wn)(s:Sm)(hl:l.length<1000000){K:KT}(hK:K (.sb (l.any fun d=>sEq d.name s.dur)) []):
  ACall Tryz.prog 149 [.lst (l.map encWn),.fn (.func 150) [] [.fp (celSm s)]] [] K:=by
 have hc:∀{K:KT},K (.v (.int .i64 (firstIx (fun d:Wn=>sEq d.name s.dur) l))) []->ACall Tryz.prog 137 [.lst (l.map encWn),.fn (.func 150) [] [.fp (celSm s)]] [] K:=fun h=>cixW l _ _ (fun d=>sEq d.name s.dur) (fun x K h=>crNam2 x s h) hl h
 refine ofrAnW rfl rfl ?_
 (repeat' ((conv=>whnf);first|(with_reducible refine hc ?_)|refine zG ?_|apply zA|(apply zI;intro h)|exact zT));(all_goals conv=>whnf)
 rw[<-first_any]at hK
 exact hK
theorem crNames(t:Tp)(ht:t.devs.length<1000000)(i:Nt)(hb:Bnd i)(s:Sm){K:KT}(hK:K (.v (.int .i64 (namE t i s))) []):ACall Tryz.prog 89 [encT t,encNt i,encSm s] [] K:=by
 have bw:=hb.w
 refine ofrNames rfl rfl ?_
 (repeat' ((conv=>whnf);first|(with_reducible first|refine crAnD t.devs s ht ?_|refine crAnW i.wins s (by omega) ?_)|refine zG ?_|apply zA|(apply zI;intro h)|exact zT));(all_goals conv=>whnf)
 all_goals
  have e:∀b:ByteArray,sEq b ⟨#[]⟩=(b.toList==(⟨#[]⟩:ByteArray).toList):=fun _=>rfl
  unfold namE at hK
  rw[e,e]at hK
  simp_all
 all_goals first
  |exact hK
  |trace_state
theorem fstE_cons{α:Type}(f:α->Int)(x:α)(l:List α):fstE f (x::l)=if f x≠0 then f x else fstE f l:=rfl
noncomputable def chkV(t:Tp)(i:Nt):Int:=if compB t=true/\ntB i=true then chkP t i else 1
theorem chkP_eq(t:Tp)(i:Nt):chkP t i=
  if fstE (fun d:Df=>(grpP t i d.name).2) i.grps≠0 then fstE (fun d:Df=>(grpP t i d.name).2) i.grps else
  if fstE (fun d:Df=>(svcP i d.name).2) i.svcs≠0 then fstE (fun d:Df=>(svcP i d.name).2) i.svcs else
  if fstE (fun s:Sm=>if(stmP t i s).2≠0 then(stmP t i s).2 else namE t i s) i.sts≠0 then fstE (fun s:Sm=>if(stmP t i s).2≠0 then(stmP t i s).2 else namE t i s) i.sts else
  if fstE (fun p:Pb=>if edgeIx t.edges p.edge<0 then 5 else 0) i.pubs≠0 then fstE (fun p:Pb=>if edgeIx t.edges p.edge<0 then 5 else 0) i.pubs else
  fstE (fun h:Hn=>if edgeIx t.edges h.edge<0 then 5 else(grpP t i h.grp).2) i.hids:=rfl
theorem crCheck(t:Tp)(ht:t.edges.length<1000000)(hd:t.devs.length<1000000)(i:Nt)(hb:Bnd i){K:KT}(hK:K (.v (.int .i64 (chkV t i))) []):ACall Tryz.prog 47 [encT t,encNt i] [] K:=by
 have bg:=hb.g;have bs:=hb.s;have bt:=hb.t;have bp:=hb.p;have bh:=hb.h
 refine ofrCheck rfl rfl ?_
 unfold chkV at hK
 by_cases hc:compB t=true
 rotate_left
 ·have hcf:compB t=false:=by simpa using hc
  rw[if_neg (fun hh=>hc hh.1)]at hK
  (repeat' ((conv=>whnf);first|(with_reducible refine ctComp t ht ?_)|refine zG ?_|apply zA|(apply zI;intro h)|exact zT));(all_goals conv=>whnf)
  exact hK
 by_cases hn:ntB i=true
 rotate_left
 ·have hnf:ntB i=false:=by simpa using hn
  rw[if_neg (fun hh=>hn hh.2)]at hK
  (repeat' ((conv=>whnf);first|(with_reducible first|refine ctComp t ht ?_|refine ckNt i hb ?_)|refine zG ?_|apply zA|(apply zI;intro h)|exact zT));(all_goals conv=>whnf)
  exact hK
 rw[if_pos ⟨hc,hn⟩,chkP_eq]at hK
 have hg:=fun(nm:ByteArray) {K:KT} h=>@crGrp t hc i hb nm K h
 have hs:=fun(nm:ByteArray) {K:KT} h=>@crSvc i hb nm K h
 have hm:=fun(s:Sm) {K:KT} h=>@crStm t hc i hb s K h
 (repeat' ((conv=>whnf);first|(with_reducible first|refine ctComp t ht ?_|refine ckNt i hb ?_)|refine zG ?_|apply zA|(apply zI;intro h)|exact zT));(all_goals conv=>whnf)
 refine Lp.intro Nat (fun n=>⟨2,[(0,boxT t),(1,boxNt i)],[(2,.op 0 0),(3,.op 1 0),(33,.lst (i.grps.map encDf)),(34,.v (.int .i64 (i.grps.map encDf).length)),(35,.v (.int .i64 n))]⟩) (fun n=>n<=i.grps.length/\fstE (fun d:Df=>(grpP t i d.name).2) i.grps=fstE (fun d:Df=>(grpP t i d.name).2) (i.grps.drop n)) (fun n=>i.grps.length-n) 0 ⟨Nat.zero_le _,by rw[List.drop_zero]⟩ ?_ ?_
 ·(exact leA)
 intro n ⟨hn1,heq⟩
 rcases Nat.lt_or_ge n i.grps.length with hnl|hnl
 ·obtain⟨x,hx⟩:=gex hnl
  have hdr:i.grps.drop n=x::i.grps.drop (n+1):=by
   rw[List.getElem?_eq_getElem hnl]at hx
   rw[<-Option.some.inj hx,<-List.drop_eq_getElem_cons hnl]
  rw[hdr,fstE_cons]at heq
  have hgx:=fun {K} h=>@hg x.name K h
  generalize grpP t i x.name=G at*
  obtain⟨Gs,Ge⟩:=G
  simp only at heq hgx
  (repeat' ((conv=>whnf);first|(with_reducible first|refine in_map hnl ?_|refine ix_map hx ?_|refine hgx ?_)|refine zG ?_|apply zA|(apply zI;intro h)|exact zT));(all_goals conv=>whnf)
  all_goals first
   |(rw[if_neg (fun hh=>hh h)]at heq
     refine⟨n+1,⟨hnl,heq⟩,by omega,?_⟩
     rw[Int.natCast_add,Int.natCast_one]
     (exact leA)
     done)
   |(rw[if_pos h]at heq
     rw[heq,if_pos h]at hK
     exact hK)
   |trace_state
 rw[List.drop_of_length_le hnl]at heq
 have e0:fstE (fun d:Df=>(grpP t i d.name).2) i.grps=0:=heq
 clear heq
 (repeat' ((conv=>whnf);first|refine zG ?_|apply zA|(apply zI;intro h)|exact zT));(all_goals conv=>whnf)
 refine Lp.intro Nat (fun n=>⟨2,[(0,boxT t),(1,boxNt i)],[(2,.op 0 0),(3,.op 1 0),(52,.lst (i.svcs.map encDf)),(53,.v (.int .i64 (i.svcs.map encDf).length)),(54,.v (.int .i64 n))]⟩) (fun n=>n<=i.svcs.length/\fstE (fun d:Df=>(svcP i d.name).2) i.svcs=fstE (fun d:Df=>(svcP i d.name).2) (i.svcs.drop n)) (fun n=>i.svcs.length-n) 0 ⟨Nat.zero_le _,by rw[List.drop_zero]⟩ ?_ ?_
 ·(exact leA)
 intro n ⟨hn1,heq⟩
 rcases Nat.lt_or_ge n i.svcs.length with hnl|hnl
 ·obtain⟨x,hx⟩:=gex hnl
  have hdr:i.svcs.drop n=x::i.svcs.drop (n+1):=by
   rw[List.getElem?_eq_getElem hnl]at hx
   rw[<-Option.some.inj hx,<-List.drop_eq_getElem_cons hnl]
  rw[hdr,fstE_cons]at heq
  have hsx:=fun {K} h=>@hs x.name K h
  generalize svcP i x.name=G at*
  obtain⟨Gs,Ge⟩:=G
  simp only at heq hsx
  (repeat' ((conv=>whnf);first|(with_reducible first|refine in_map hnl ?_|refine ix_map hx ?_|refine hsx ?_)|refine zG ?_|apply zA|(apply zI;intro h)|exact zT));(all_goals conv=>whnf)
  all_goals first
   |(rw[if_neg (fun hh=>hh h)]at heq
     refine⟨n+1,⟨hnl,heq⟩,by omega,?_⟩
     rw[Int.natCast_add,Int.natCast_one]
     (exact leA)
     done)
   |(rw[if_pos h]at heq
     rw[if_neg (fun hh=>hh e0)]at hK
     rw[heq,if_pos h]at hK
     exact hK)
   |trace_state
 rw[List.drop_of_length_le hnl]at heq
 have e1:fstE (fun d:Df=>(svcP i d.name).2) i.svcs=0:=heq
 clear heq
 (repeat' ((conv=>whnf);first|refine zG ?_|apply zA|(apply zI;intro h)|exact zT));(all_goals conv=>whnf)
 refine Lp.intro Nat (fun n=>⟨2,[(0,boxT t),(1,boxNt i)],[(2,.op 0 0),(3,.op 1 0),(70,.lst (i.sts.map encSm)),(71,.v (.int .i64 (i.sts.map encSm).length)),(72,.v (.int .i64 n))]⟩) (fun n=>n<=i.sts.length/\fstE (fun s:Sm=>if(stmP t i s).2≠0 then(stmP t i s).2 else namE t i s) i.sts=fstE (fun s:Sm=>if(stmP t i s).2≠0 then(stmP t i s).2 else namE t i s) (i.sts.drop n)) (fun n=>i.sts.length-n) 0 ⟨Nat.zero_le _,by rw[List.drop_zero]⟩ ?_ ?_
 ·(exact leA)
 intro n ⟨hn1,heq⟩
 rcases Nat.lt_or_ge n i.sts.length with hnl|hnl
 ·obtain⟨x,hx⟩:=gex hnl
  have hdr:i.sts.drop n=x::i.sts.drop (n+1):=by
   rw[List.getElem?_eq_getElem hnl]at hx
   rw[<-Option.some.inj hx,<-List.drop_eq_getElem_cons hnl]
  rw[hdr,fstE_cons]at heq
  have hmx:=fun {K} h=>@hm x K h
  generalize stmP t i x=G at*
  obtain⟨Gs,Ge⟩:=G
  simp only at heq hmx
  (repeat' ((conv=>whnf);first|(with_reducible first|refine in_map hnl ?_|refine ix_map hx ?_|refine hmx ?_|refine crNames t hd i hb x ?_)|refine zG ?_|apply zA|(apply zI;intro h)|exact zT));(all_goals conv=>whnf)
  all_goals first
   |(rename_i hz
     rw[if_neg (show ¬(Ge≠0)from fun hh=>hh hz),if_neg (fun hh=>hh h)]at heq
     refine⟨n+1,⟨hnl,heq⟩,by omega,?_⟩
     rw[Int.natCast_add,Int.natCast_one]
     (exact leA)
     done)
   |(rw[if_pos h,if_pos h]at heq
     rw[if_neg (fun hh=>hh e0),if_neg (fun hh=>hh e1)]at hK
     rw[heq,if_pos h]at hK
     exact hK)
   |(rename_i hz
     rw[if_neg (show ¬(Ge≠0)from fun hh=>hh hz),if_pos h]at heq
     rw[if_neg (fun hh=>hh e0),if_neg (fun hh=>hh e1)]at hK
     rw[heq,if_pos h]at hK
     exact hK)
   |trace_state
 rw[List.drop_of_length_le hnl]at heq
 have e2:fstE (fun s:Sm=>if(stmP t i s).2≠0 then(stmP t i s).2 else namE t i s) i.sts=0:=heq
 clear heq
 (repeat' ((conv=>whnf);first|refine zG ?_|apply zA|(apply zI;intro h)|exact zT));(all_goals conv=>whnf)
 refine Lp.intro Nat (fun n=>⟨2,[(0,boxT t),(1,boxNt i)],[(2,.op 0 0),(3,.op 1 0),(95,.lst (i.pubs.map encPb)),(96,.v (.int .i64 (i.pubs.map encPb).length)),(97,.v (.int .i64 n))]⟩) (fun n=>n<=i.pubs.length/\fstE (fun p:Pb=>if edgeIx t.edges p.edge<0 then 5 else 0) i.pubs=fstE (fun p:Pb=>if edgeIx t.edges p.edge<0 then 5 else 0) (i.pubs.drop n)) (fun n=>i.pubs.length-n) 0 ⟨Nat.zero_le _,by rw[List.drop_zero]⟩ ?_ ?_
 ·(exact leA)
 intro n ⟨hn1,heq⟩
 rcases Nat.lt_or_ge n i.pubs.length with hnl|hnl
 ·obtain⟨x,hx⟩:=gex hnl
  have hdr:i.pubs.drop n=x::i.pubs.drop (n+1):=by
   rw[List.getElem?_eq_getElem hnl]at hx
   rw[<-Option.some.inj hx,<-List.drop_eq_getElem_cons hnl]
  rw[hdr,fstE_cons]at heq
  (repeat' ((conv=>whnf);first|(with_reducible first|refine in_map hnl ?_|refine ix_map hx ?_|refine ctEdge t _ ht ?_)|refine zG ?_|apply zA|(apply zI;intro h)|exact zT));(all_goals conv=>whnf)
  all_goals first
   |(rw[if_neg h,if_neg (by decide)]at heq
     refine⟨n+1,⟨hnl,heq⟩,by omega,?_⟩
     rw[Int.natCast_add,Int.natCast_one]
     (exact leA)
     done)
   |(rw[if_pos h,if_pos (by decide)]at heq
     rw[if_neg (fun hh=>hh e0),if_neg (fun hh=>hh e1),if_neg (fun hh=>hh e2)]at hK
     rw[heq,if_pos (by decide)]at hK
     exact hK)
   |trace_state
 rw[List.drop_of_length_le hnl]at heq
 have e3:fstE (fun p:Pb=>if edgeIx t.edges p.edge<0 then 5 else 0) i.pubs=0:=heq
 clear heq
 (repeat' ((conv=>whnf);first|refine zG ?_|apply zA|(apply zI;intro h)|exact zT));(all_goals conv=>whnf)
 refine Lp.intro Nat (fun n=>⟨2,[(0,boxT t),(1,boxNt i)],[(2,.op 0 0),(3,.op 1 0),(108,.lst (i.hids.map encHn)),(109,.v (.int .i64 (i.hids.map encHn).length)),(110,.v (.int .i64 n))]⟩) (fun n=>n<=i.hids.length/\fstE (fun h:Hn=>if edgeIx t.edges h.edge<0 then 5 else(grpP t i h.grp).2) i.hids=fstE (fun h:Hn=>if edgeIx t.edges h.edge<0 then 5 else(grpP t i h.grp).2) (i.hids.drop n)) (fun n=>i.hids.length-n) 0 ⟨Nat.zero_le _,by rw[List.drop_zero]⟩ ?_ ?_
 ·(exact leA)
 intro n ⟨hn1,heq⟩
 rcases Nat.lt_or_ge n i.hids.length with hnl|hnl
 ·obtain⟨x,hx⟩:=gex hnl
  have hdr:i.hids.drop n=x::i.hids.drop (n+1):=by
   rw[List.getElem?_eq_getElem hnl]at hx
   rw[<-Option.some.inj hx,<-List.drop_eq_getElem_cons hnl]
  rw[hdr,fstE_cons]at heq
  have hgx:=fun {K} h=>@hg x.grp K h
  generalize grpP t i x.grp=G at*
  obtain⟨Gs,Ge⟩:=G
  simp only at heq hgx
  (repeat' ((conv=>whnf);first|(with_reducible first|refine in_map hnl ?_|refine ix_map hx ?_|refine ctEdge t _ ht ?_|refine hgx ?_)|refine zG ?_|apply zA|(apply zI;intro h)|exact zT));(all_goals conv=>whnf)
  all_goals first
   |(rename_i hz
     rw[if_neg hz,if_neg (fun hh=>hh h)]at heq
     refine⟨n+1,⟨hnl,heq⟩,by omega,?_⟩
     rw[Int.natCast_add,Int.natCast_one]
     (exact leA)
     done)
   |(rw[if_pos h,if_pos (by decide)]at heq
     rw[if_neg (fun hh=>hh e0),if_neg (fun hh=>hh e1),if_neg (fun hh=>hh e2),if_neg (fun hh=>hh e3)]at hK
     rw[heq]at hK
     exact hK)
   |(rename_i hz
     rw[if_neg hz,if_pos h]at heq
     rw[if_neg (fun hh=>hh e0),if_neg (fun hh=>hh e1),if_neg (fun hh=>hh e2),if_neg (fun hh=>hh e3)]at hK
     rw[heq]at hK
     exact hK)
   |trace_state
 rw[List.drop_of_length_le hnl]at heq
 have e4:fstE (fun h:Hn=>if edgeIx t.edges h.edge<0 then 5 else(grpP t i h.grp).2) i.hids=0:=heq
 clear heq
 rw[if_neg (fun hh=>hh e0),if_neg (fun hh=>hh e1),if_neg (fun hh=>hh e2),if_neg (fun hh=>hh e3),e4]at hK
 (repeat' ((conv=>whnf);first|refine zG ?_|apply zA|(apply zI;intro h)|exact zT));(all_goals conv=>whnf)
 exact hK
end Go.Proofs.YtahhamfngafmcaaGreatDoor
