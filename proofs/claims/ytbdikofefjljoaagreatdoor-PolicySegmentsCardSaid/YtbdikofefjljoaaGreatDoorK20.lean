/- The reference's intents: Valid, as far as is needed. -/
import Derived.Test.YtbdikofefjljoaaGreatDoorProg
import Derived.Sort.AssemblyPlain
import Derived.Test.YtbdikofefjljoaaGreatDoorK19
set_option linter.unusedVariables false
set_option linter.unusedSimpArgs false
set_option maxRecDepth 100000
set_option maxHeartbeats 4000000
namespace Go.Proofs.YtbdikofefjljoaaGreatDoor
open Go Go.Vm
noncomputable abbrev vN(n:Nat):AV:=.v (.int .i64 (n:Int))
theorem wr_u32_eq{p:Int}{K:Int->Prop}(h:K (wu p)):Wr .u32 p K:=Wr.intro rfl h
theorem cwFol1(d:Df)(s:ByteArray){K:KT}(hK:K (.sb (sEq d.name s)) []):ACall Tryz.prog 335 [encDf d,.fp [.v (.string s)]] [] K:=by
 refine ofwFol1 rfl rfl ?_
 (repeat' ((conv=>whnf);first|refine zG ?_|apply zA|(apply zI;intro h)|exact zT));(all_goals conv=>whnf)
 exact hK
theorem cwIxD(l:List Df)(s:ByteArray)(hl:l.length<1000000){K:KT}(hK:K (.v (.int .i64 (firstIx (fun d=>sEq d.name s) l))) []):
  ACall Tryz.prog 293 [.lst (l.map encDf),.fn (.func 335) [] [.fp [.v (.string s)]]] [] K:=by
 refine ofwIxD rfl rfl ?_
 (repeat' ((conv=>whnf);first|refine zG ?_|apply zA|(apply zI;intro h)|exact zT));(all_goals conv=>whnf)
 refine Lp.intro Nat (fun k=>⟨0,[],[(0,.lst (l.map encDf)),(1,.fn (.func 335) [] [.fp [.v (.string s)]]),(7,.v (.int .i64 (l.map encDf).length)),(8,.v (.int .i64 k))]⟩) (fun k=>k<=l.length/\∀(i:Nat) y,i<k->l[i]? =some y->sEq y.name s=false) (fun k=>l.length-k) 0 ⟨Nat.zero_le _,fun i y hi=>absurd hi (Nat.not_lt_zero _)⟩ ?_ ?_
 ·(exact leA)
 intro k ⟨hk,hinv⟩
 rcases Nat.lt_or_ge k l.length with hkl|hkl
 ·obtain⟨r,hr⟩:=gex hkl
  (repeat' ((conv=>whnf);first|(with_reducible first|refine in_map hkl ?_|refine ix_map hr ?_|refine cwFol1 r s ?_)|refine zG ?_|apply zA|(apply zI;intro h)|exact zT));(all_goals conv=>whnf)
  ·rw[firstIx_at hr h hinv]at hK;exact hK
  ·refine⟨k+1,⟨by omega,before_succ hr h hinv⟩,by omega,?_⟩
   rw[Int.natCast_add,Int.natCast_one]
   (exact leA)
 ·(repeat' ((conv=>whnf);first|refine zG ?_|apply zA|(apply zI;intro h)|exact zT));(all_goals conv=>whnf)
  rw[firstIx_none (before_all hkl hinv)]at hK
  exact hK
def ixs(p:Ed->Bool)(l:List Ed)(k:Nat):List Nat:=(List.range k).filter fun i=>match l[i]? with
 |some e=>p e
 |none=>false
theorem ixs_succ(p:Ed->Bool){l:List Ed}{k:Nat}{e:Ed}(h:l[k]? =some e):ixs p l (k+1)=ixs p l k++if p e=true then [k]else []:=by
 rw[ixs,List.range_succ,List.filter_append,<-ixs]
 congr 1
 rw[List.filter_cons,List.filter_nil]
 simp only[h]
theorem ixs_len(p:Ed->Bool)(l:List Ed)(k:Nat):(ixs p l k).length<=k:=by
 have:=List.length_filter_le (fun i=>match l[i]? with
  |some e=>p e
  |none=>false) (List.range k)
 rw[List.length_range]at this
 exact this
theorem ixs_lt{p:Ed->Bool}{l:List Ed}{k n:Nat}(h:n∈ixs p l k):n<k/\∃e,l[n]? =some e/\p e=true:=by
 rw[ixs,List.mem_filter,List.mem_range]at h
 refine⟨h.1,?_⟩
 cases he:l[n]? with
 |none=>simp[he]at h
 |some e=>exact⟨e,rfl,by simpa[he]using h.2⟩
theorem cwZone1(e:Ed)(s:ByteArray){K:KT}(hK:K (.sb (sEq e.zone s)) []):ACall Tryz.prog 320 [encE e,.fp [.v (.string s)]] [] K:=by
 refine ofwZone1 rfl rfl ?_
 (repeat' ((conv=>whnf);first|refine zG ?_|apply zA|(apply zI;intro h)|exact zT));(all_goals conv=>whnf)
 exact hK
theorem cwIdx(t:Tp)(s:ByteArray)(hl:t.edges.length<1000){K:KT}(hK:K (.lst ((ixs (fun e=>sEq e.zone s) t.edges t.edges.length).map vN)) []):
  ACall Tryz.prog 319 [encT t,.fn (.func 320) [] [.fp [.v (.string s)]]] [] K:=by
 refine ofwIdx rfl rfl ?_
 (repeat' ((conv=>whnf);first|refine zG ?_|apply zA|(apply zI;intro h)|exact zT));(all_goals conv=>whnf)
 refine Lp.intro (Nat×List Nat) (fun g=>⟨2,[(1,.arr 1 (g.2.map vN))],[(1,.fn (.func 320) [] [.fp [.v (.string s)]]),(5,.os 1 1 0 g.2.length),(9,.lst (t.edges.map encE)),(10,.v (.int .i64 (t.edges.map encE).length)),(11,.v (.int .i64 g.1))]⟩)
  (fun g=>g.1<=t.edges.length/\g.2=ixs (fun e=>sEq e.zone s) t.edges g.1) (fun g=>t.edges.length-g.1) (0,[]) ⟨Nat.zero_le _,rfl⟩ ?_ ?_
 ·(exact leA)
 rintro⟨k,out⟩ ⟨hk,ho⟩
 simp only at hk ho⊢
 have hol:out.length<=k:=by rw[ho];exact ixs_len _ _ _
 rcases Nat.lt_or_ge k t.edges.length with hkl|hkl
 ·obtain⟨e,he⟩:=gex hkl
  have hs:=ixs_succ (fun e=>sEq e.zone s) he
  rw[<-ho]at hs
  (repeat' ((conv=>whnf);first|(with_reducible first|refine in_map hkl ?_|refine ix_map he ?_|refine cwZone1 e s ?_)|refine zG ?_|apply zA|(apply zI;intro h)|exact zT));(all_goals conv=>whnf)
  ·refine⟨(k+1,out++[k]),⟨hkl,by rw[hs,if_pos h]⟩,by simp only;omega,?_⟩
   simp only[List.map_append,List.length_append,List.map_cons,List.map_nil,List.length_cons,List.length_nil,Int.natCast_add,Int.natCast_one]
   (exact leA)
  ·refine⟨(k+1,out),⟨hkl,by rw[hs,if_neg (by simp[h]),List.append_nil]⟩,by simp only;omega,?_⟩
   simp only[Int.natCast_add,Int.natCast_one]
   (exact leA)
 ·obtain rfl:k=t.edges.length:=by omega
  rw[<-ho]at hK
  (repeat' ((conv=>whnf);first|(with_reducible refine sl_full (List.length_map ..) ?_)|refine zG ?_|apply zA|(apply zI;intro h)|exact zT));(all_goals conv=>whnf)
  exact hK
theorem cwZone(t:Tp)(s:ByteArray)(hl:t.edges.length<1000){K:KT}(hK:K (.lst ((ixs (fun e=>sEq e.zone s) t.edges t.edges.length).map vN)) []):ACall Tryz.prog 265 [encT t,.v (.string s)] [] K:=by
 refine ofwZone rfl rfl ?_
 (repeat' ((conv=>whnf);first|(with_reducible refine cwIdx t s hl ?_)|refine zG ?_|apply zA|(apply zI;intro h)|exact zT));(all_goals conv=>whnf)
 exact hK
abbrev outO(i n:Nat):Vm.Obj:=.box [.os i 2 0 n]
noncomputable abbrev arrO(rs:List Rg):Vm.Obj:=.arr 2 (rs.map encR)
theorem cwAdd(p:Pf)(rs:List Rg)(hl:rs.length<1000000000000){K:KT}(hK:K (.tup []) [outO 2 (rs++[p.rg]).length,.box [],arrO (rs++[p.rg])]):
  ACall Tryz.prog 262 [encP p,.op 0 0] [outO 1 rs.length,arrO rs] K:=by
 refine ofwG1 rfl rfl ?_
 (repeat' ((conv=>whnf);first|(with_reducible refine cpOf p ?_)|refine zG ?_|apply zA|(apply zI;intro h)|exact zT));(all_goals conv=>whnf)
 simp only[outO,arrO,List.length_append,List.map_append]at hK
 exact hK
def rgAt(t:Tp)(i:Nat):Rg:=match t.edges[i]? with
 |some e=>e.pf.rg
 |none=>⟨0,0,by decide,by decide,by decide,by decide⟩
def visG(t:Tp)(x:It)(rs:List Rg):Int×List Rg:=
 if x.kind=2 then(0,rs++[x.pf.rg])else if ixs (fun e=>sEq e.zone x.name) t.edges t.edges.length=[]then(5,rs)else(0,rs++(ixs (fun e=>sEq e.zone x.name) t.edges t.edges.length).map (rgAt t))
noncomputable abbrev adO(i:Nat):Vm.Obj:=.box [.fn (.func 262) [] [.op i 0]]
theorem cwVis(t:Tp)(x:It)(rs:List Rg)(hl:t.edges.length<1000)(hr:rs.length<100000000000){K:KT}(hK:K (.v (.int .i64 (visG t x rs).1)) [adO 2,boxT t,outO 4 (visG t x rs).2.length,.box [],arrO (visG t x rs).2]):
  ACall Tryz.prog 264 [encIt x,.op 0 0,.op 1 0] [adO 2,boxT t,outO 3 rs.length,arrO rs] K:=by
 refine ofwG2 rfl rfl ?_
 (repeat' ((conv=>whnf);first|(with_reducible first|refine cwAdd x.pf rs zo ?_|refine cwZone t x.name hl ?_)|refine zG ?_|apply zA|(apply zI;intro h)|exact zT));(all_goals conv=>whnf)
 ·rw[visG,if_pos h]at hK
  exact hK
 ·have h0:ixs (fun e=>sEq e.zone x.name) t.edges t.edges.length=[]:=List.length_eq_zero_iff.1 (by rw[List.length_map]at h;omega)
  rw[visG,if_neg zp,if_pos h0]at hK
  exact hK
 have hne:ixs (fun e=>sEq e.zone x.name) t.edges t.edges.length≠[]:=fun e=>h (by rw[e];rfl)
 rw[visG,if_neg zp,if_neg hne]at hK
 have hlt:=fun n hn=>@ixs_lt (fun e=>sEq e.zone x.name) t.edges t.edges.length n hn
 have hll:=ixs_len (fun e=>sEq e.zone x.name) t.edges t.edges.length
 generalize ixs (fun e=>sEq e.zone x.name) t.edges t.edges.length=L at*
 refine Lp.intro (Nat×List Rg) (fun g=>⟨5,[(0,adO 2),(1,boxT t),(2,outO 4 g.2.length),(4,arrO g.2)],[(1,.op 0 0),(2,.op 1 0),(22,.lst (L.map vN)),(23,.v (.int .i64 (L.map vN).length)),(24,.v (.int .i64 g.1))]⟩)
  (fun g=>g.1<=L.length/\g.2=rs++(L.take g.1).map (rgAt t)) (fun g=>L.length-g.1) (0,rs) ⟨Nat.zero_le _,by simp⟩ ?_ ?_
 ·(exact leA)
 rintro⟨k,out⟩ ⟨hk,ho⟩
 simp only at hk ho⊢
 have hol:out.length=rs.length+k:=by rw[ho,List.length_append,List.length_map,List.length_take];omega
 rcases Nat.lt_or_ge k L.length with hkl|hkl
 ·obtain⟨n,hn⟩:=gex hkl
  obtain⟨hnl,e,he,_⟩:=hlt n (List.mem_of_getElem? hn)
  have hrg:rgAt t n=e.pf.rg:=by rw[rgAt,he]
  (repeat' ((conv=>whnf);first|(with_reducible first|refine in_map hkl ?_|refine ix_map hn ?_|refine in_map hnl ?_|refine ix_map he ?_|refine cwAdd e.pf out zo ?_)|refine zG ?_|apply zA|(apply zI;intro h)|exact zT));(all_goals conv=>whnf)
  refine⟨(k+1,out++[e.pf.rg]),⟨hkl,?_⟩,by simp only;omega,?_⟩
  ·simp only
   rw[ho,List.take_add_one,hn,List.map_append,List.append_assoc]
   simp[hrg]
  ·simp only[Int.natCast_add,Int.natCast_one]
   (exact leA)
 ·have hke:k=L.length:=by omega
  rw[hke,List.take_length]at ho
  rw[<-ho]at hK
  (repeat' ((conv=>whnf);first|refine zG ?_|apply zA|(apply zI;intro h)|exact zT));(all_goals conv=>whnf)
  exact hK
noncomputable abbrev foO(l:List Df):Vm.Obj:=.box [.lst (l.map encDf),.mp 1,.mp 2,.fn (.func 264) [] [.op 3 0,.op 4 0]]
theorem visG_sz{t:Tp}(ht:t.edges.length<1000)(x:It)(rs:List Rg)(h:(visG t x rs).1=0):(visG t x rs).2.length<=rs.length+1000:=by
 unfold visG at h⊢
 have hll:=ixs_len (fun e=>sEq e.zone x.name) t.edges t.edges.length
 split
 ·rw[List.length_append];simp
 ·split
  ·simp
  ·rw[List.length_append,List.length_map];omega
theorem cwFol(t:Tp)(ht:t.edges.length<1000)(l:List Df)(hl:l.length<=999)(hit:∀d,d∈l->d.items.length<=999):∀(k:Nat) (p:List Nat) (nm:ByteArray) (d:List Nat) (rs:List Rg),Fine l p d->p.length+k=l.length+1->rs.length<=1000000*(d.length+p.length)->∀{K:KT},
  K (.v (.int .i64 (fol (visG t) l k p nm d rs).1)) [foO l,.map (nameM l p),.map (nameM l (fol (visG t) l k p nm d rs).2.1),adO 5,boxT t,outO 7 (fol (visG t) l k p nm d rs).2.2.length,.box [],arrO (fol (visG t) l k p nm d rs).2.2]->
  ACall Tryz.prog 318 [.op 0 0,.v (.string nm)] [foO l,.map (nameM l p),.map (nameM l d),adO 5,boxT t,outO 6 rs.length,arrO rs] K
 |0,p,nm,d,rs,hf,hk,hrs,K,hK=>by
  have:=hf.small
  omega
 |k+1,p,nm,d,rs,hf,hk,hrs,K,hK=>by
  refine ofwFol rfl rfl ?_
  have hsm:=hf.small
  cases hn:findD l nm with
  |none=>
   have hix:∀{K:KT},K (.v (.int .i64 (-1))) []->ACall Tryz.prog 293 [.lst (l.map encDf),.fn (.func 335) [] [.fp [.v (.string nm)]]] [] K:=fun {K} h=>
    cwIxD l nm zo (by rw[firstIx_find,hn];exact h)
   simp only[fol,hn]at hK
   (repeat' ((conv=>whnf);first|(with_reducible refine hix ?_)|refine zG ?_|apply zA|(apply zI;intro h)|exact zT));(all_goals conv=>whnf)
   exact hK
  |some n=>
   obtain⟨df,hdf,hname,hnl⟩:=findD_some hn
   have hix:∀{K:KT},K (.v (.int .i64 n)) []->ACall Tryz.prog 293 [.lst (l.map encDf),.fn (.func 335) [] [.fp [.v (.string nm)]]] [] K:=fun {K} h=>
    cwIxD l nm zo (by rw[firstIx_find,hn];exact h)
   by_cases hp:n∈p
   ·simp only[fol,hn,if_pos hp]at hK
    (repeat' ((conv=>whnf);first|(with_reducible first|refine hix ?_|refine mg_some (nameM_in hn hp) ?_)|refine zG ?_|apply zA|(apply zI;intro h)|exact zT));(all_goals conv=>whnf)
    exact hK
   by_cases hd:n∈d
   ·simp only[fol,hn,if_neg hp,if_pos hd]at hK
    (repeat' ((conv=>whnf);first|(with_reducible first|refine hix ?_|refine mg_none (nameM_out hf.pf hn hp) ?_|refine mg_some (nameM_in hn hd) ?_)|refine zG ?_|apply zA|(apply zI;intro h)|exact zT));(all_goals conv=>whnf)
    exact hK
   simp only[fol,hn,if_neg hp,if_neg hd,hdf,Option.map_some,Option.getD_some]at hK
   (repeat' ((conv=>whnf);first|(with_reducible first|refine hix ?_|refine mg_none (nameM_out hf.pf hn hp) ?_|refine mg_none (nameM_out hf.df hn hd) ?_|refine Mu.intro (updM_name hn) ?_|refine in_map hnl ?_|refine ix_map hdf ?_)|refine zG ?_|apply zA|(apply zI;intro h)|exact zT));(all_goals conv=>whnf)
   have hpush:=hf.push hn hp hd
   have hfed:=fun(q:Nat) nm d s h h0=>fol_fed (visG t) List.length (visG_sz ht) l hit q (p++[n]) nm d s h h0
   have hlen:=hit df (List.mem_of_getElem? hdf)
   refine Lp.intro (Nat×List Nat×List Rg) (fun g=>⟨9,[(0,foO l),(1,.map (nameM l (p++[n]))),(2,.map (nameM l g.2.1)),(3,adO 5),(4,boxT t),(5,outO 7 g.2.2.length),(7,arrO g.2.2),(8,.box [.v (.string nm)])],[(0,.op 0 0),(3,.op 8 0),(49,.lst (df.items.map encIt)),(50,.v (.int .i64 (df.items.map encIt).length)),(51,.v (.int .i64 g.1)),(DS,.dfr 1 nm)]⟩)
    (fun g=>g.1<=df.items.length/\Fine l (p++[n]) g.2.1/\folI (visG t) (fol (visG t) l k (p++[n])) df.items d rs=folI (visG t) (fol (visG t) l k (p++[n])) (df.items.drop g.1) g.2.1 g.2.2/\d.length<=g.2.1.length/\g.2.2.length+1000000*d.length<=rs.length+1000000*g.2.1.length+1000*g.1)
    (fun g=>df.items.length-g.1) (0,d,rs) ⟨Nat.zero_le _,hpush,by rw[List.drop_zero],Nat.le_refl _,by simp only;omega⟩ ?_ ?_
   ·(exact leA)
   rintro⟨i,d1,rs1⟩ ⟨hi,hf1,heq,hd1,hsz⟩
   simp only at hi hf1 heq hd1 hsz⊢
   rcases Nat.lt_or_ge i df.items.length with hil|hil
   ·obtain⟨x,hx⟩:=gex hil
    have hdr:df.items.drop i=x::df.items.drop (i+1):=by
     rw[List.drop_eq_getElem_cons hil]
     congr 1
     rw[List.getElem?_eq_getElem hil]at hx;cases hx;rfl
    rw[hdr,folI_cons]at heq
    have hsm1:=hf1.small
    rw[List.length_append,List.length_singleton]at hsm1
    by_cases hk3:x.kind=3
    ·simp only[if_pos hk3]at heq
     have hc:=fun {K} h=>@cwFol t ht l hl hit k (p++[n]) x.name d1 rs1 hf1 (by rw[List.length_append];simp only[List.length_singleton];omega) (by rw[List.length_append];simp only[List.length_singleton];omega) K h
     have hfq:=hfed k x.name d1 rs1 hf1
     generalize fol (visG t) l k (p++[n]) x.name d1 rs1=q at*
     obtain⟨qe,qd,qs⟩:=q
     simp only at heq hc hfq
     (repeat' ((conv=>whnf);first|(with_reducible first|refine in_map hil ?_|refine ix_map hx ?_|refine hc ?_|refine Mu.intro (delM_name hf.pf hn hp) ?_)|refine zG ?_|apply zA|(apply zI;intro h)|exact zT));(all_goals conv=>whnf)
     all_goals first
      |(have hne:¬qe=0:=by first|assumption|(intro e;simp_all;done)
        rw[heq,if_neg hne]at hK
        simp only[if_neg hne]at hK
        exact hK)
      |(have h0:qe=0:=by first|assumption|(simp_all;done)
        have hfq:=hfq h0
        refine⟨(i+1,qd,qs),⟨hil,hfq.fine,by rw[heq,if_pos h0],by have:=hfq.le;simp only;omega,by have:=hfq.size;simp only;omega⟩,by simp only;omega,?_⟩
        simp only[Int.natCast_add,Int.natCast_one]
        (exact leA)
        done)
    ·simp only[if_neg hk3]at heq
     have hc:=fun {K} h=>@cwVis t x rs1 ht zo K h
     have hvz:=visG_sz ht x rs1
     generalize visG t x rs1=q at*
     obtain⟨qe,qs⟩:=q
     simp only at heq hc hvz
     (repeat' ((conv=>whnf);first|(with_reducible first|refine in_map hil ?_|refine ix_map hx ?_|refine hc ?_|refine Mu.intro (delM_name hf.pf hn hp) ?_)|refine zG ?_|apply zA|(apply zI;intro h)|exact zT));(all_goals conv=>whnf)
     all_goals first
      |(have hne:¬qe=0:=by first|assumption|(intro e;simp_all;done)
        rw[heq,if_neg hne]at hK
        simp only[if_neg hne]at hK
        exact hK)
      |(have h0:qe=0:=by first|assumption|(simp_all;done)
        have hvz:=hvz h0
        refine⟨(i+1,d1,qs),⟨hil,hf1,by rw[heq,if_pos h0],by skip;simp only;omega,by skip;simp only;omega⟩,by simp only;omega,?_⟩
        simp only[Int.natCast_add,Int.natCast_one]
        (exact leA)
        done)
   ·have hie:i=df.items.length:=by omega
    rw[hie,List.drop_length,folI_nil]at heq
    rw[heq]at hK
    simp only[if_true]at hK
    (repeat' ((conv=>whnf);first|(with_reducible first|refine Mu.intro (updM_name hn) ?_|refine Mu.intro (delM_name hf.pf hn hp) ?_)|refine zG ?_|apply zA|(apply zI;intro h)|exact zT));(all_goals conv=>whnf)
    exact hK
noncomputable abbrev itO(i n:Nat):Vm.Obj:=.box [.os i 7 0 n]
noncomputable abbrev arI(its:List It):Vm.Obj:=.arr 7 (its.map encIt)
def visS(x:It)(its:List It):Int×List It:=(0,its++[x])
theorem visS_sz(x:It)(its:List It)(h:(visS x its).1=0):(visS x its).2.length<=its.length+1000:=by
 simp[visS]
theorem cwAdI(x:It)(its:List It)(hl:its.length<100000000000){K:KT}(hK:K (.v (.int .i64 (visS x its).1)) [itO 2 (visS x its).2.length,.box [],arI (visS x its).2]):
  ACall Tryz.prog 266 [encIt x,.op 0 0] [itO 1 its.length,arI its] K:=by
 refine ofwS1 rfl rfl ?_
 (repeat' ((conv=>whnf);first|refine zG ?_|apply zA|(apply zI;intro h)|exact zT));(all_goals conv=>whnf)
 simp only[visS,itO,arI,List.length_append,List.map_append]at hK
 exact hK
noncomputable abbrev fsO(l:List Df):Vm.Obj:=.box [.lst (l.map encDf),.mp 1,.mp 2,.fn (.func 266) [] [.op 3 0]]
theorem cwFos(l:List Df)(hl:l.length<=999)(hit:∀d,d∈l->d.items.length<=999):∀(k:Nat) (p:List Nat) (nm:ByteArray) (d:List Nat) (rs:List It),Fine l p d->p.length+k=l.length+1->rs.length<=1000000*(d.length+p.length)->∀{K:KT},
  K (.v (.int .i64 (fol (visS) l k p nm d rs).1)) [fsO l,.map (nameM l p),.map (nameM l (fol (visS) l k p nm d rs).2.1),itO 5 (fol (visS) l k p nm d rs).2.2.length,.box [],arI (fol (visS) l k p nm d rs).2.2]->
  ACall Tryz.prog 318 [.op 0 0,.v (.string nm)] [fsO l,.map (nameM l p),.map (nameM l d),itO 4 rs.length,arI rs] K
 |0,p,nm,d,rs,hf,hk,hrs,K,hK=>by
  have:=hf.small
  omega
 |k+1,p,nm,d,rs,hf,hk,hrs,K,hK=>by
  refine ofwFos rfl rfl ?_
  have hsm:=hf.small
  cases hn:findD l nm with
  |none=>
   have hix:∀{K:KT},K (.v (.int .i64 (-1))) []->ACall Tryz.prog 293 [.lst (l.map encDf),.fn (.func 335) [] [.fp [.v (.string nm)]]] [] K:=fun {K} h=>
    cwIxD l nm zo (by rw[firstIx_find,hn];exact h)
   simp only[fol,hn]at hK
   (repeat' ((conv=>whnf);first|(with_reducible refine hix ?_)|refine zG ?_|apply zA|(apply zI;intro h)|exact zT));(all_goals conv=>whnf)
   exact hK
  |some n=>
   obtain⟨df,hdf,hname,hnl⟩:=findD_some hn
   have hix:∀{K:KT},K (.v (.int .i64 n)) []->ACall Tryz.prog 293 [.lst (l.map encDf),.fn (.func 335) [] [.fp [.v (.string nm)]]] [] K:=fun {K} h=>
    cwIxD l nm zo (by rw[firstIx_find,hn];exact h)
   by_cases hp:n∈p
   ·simp only[fol,hn,if_pos hp]at hK
    (repeat' ((conv=>whnf);first|(with_reducible first|refine hix ?_|refine mg_some (nameM_in hn hp) ?_)|refine zG ?_|apply zA|(apply zI;intro h)|exact zT));(all_goals conv=>whnf)
    exact hK
   by_cases hd:n∈d
   ·simp only[fol,hn,if_neg hp,if_pos hd]at hK
    (repeat' ((conv=>whnf);first|(with_reducible first|refine hix ?_|refine mg_none (nameM_out hf.pf hn hp) ?_|refine mg_some (nameM_in hn hd) ?_)|refine zG ?_|apply zA|(apply zI;intro h)|exact zT));(all_goals conv=>whnf)
    exact hK
   simp only[fol,hn,if_neg hp,if_neg hd,hdf,Option.map_some,Option.getD_some]at hK
   (repeat' ((conv=>whnf);first|(with_reducible first|refine hix ?_|refine mg_none (nameM_out hf.pf hn hp) ?_|refine mg_none (nameM_out hf.df hn hd) ?_|refine Mu.intro (updM_name hn) ?_|refine in_map hnl ?_|refine ix_map hdf ?_)|refine zG ?_|apply zA|(apply zI;intro h)|exact zT));(all_goals conv=>whnf)
   have hpush:=hf.push hn hp hd
   have hfed:=fun(q:Nat) nm d s h h0=>fol_fed (visS) List.length visS_sz l hit q (p++[n]) nm d s h h0
   have hlen:=hit df (List.mem_of_getElem? hdf)
   refine Lp.intro (Nat×List Nat×List It) (fun g=>⟨7,[(0,fsO l),(1,.map (nameM l (p++[n]))),(2,.map (nameM l g.2.1)),(3,itO 5 g.2.2.length),(5,arI g.2.2),(6,.box [.v (.string nm)])],[(0,.op 0 0),(3,.op 6 0),(49,.lst (df.items.map encIt)),(50,.v (.int .i64 (df.items.map encIt).length)),(51,.v (.int .i64 g.1)),(DS,.dfr 1 nm)]⟩)
    (fun g=>g.1<=df.items.length/\Fine l (p++[n]) g.2.1/\folI (visS) (fol (visS) l k (p++[n])) df.items d rs=folI (visS) (fol (visS) l k (p++[n])) (df.items.drop g.1) g.2.1 g.2.2/\d.length<=g.2.1.length/\g.2.2.length+1000000*d.length<=rs.length+1000000*g.2.1.length+1000*g.1)
    (fun g=>df.items.length-g.1) (0,d,rs) ⟨Nat.zero_le _,hpush,by rw[List.drop_zero],Nat.le_refl _,by simp only;omega⟩ ?_ ?_
   ·(exact leA)
   rintro⟨i,d1,rs1⟩ ⟨hi,hf1,heq,hd1,hsz⟩
   simp only at hi hf1 heq hd1 hsz⊢
   rcases Nat.lt_or_ge i df.items.length with hil|hil
   ·obtain⟨x,hx⟩:=gex hil
    have hdr:df.items.drop i=x::df.items.drop (i+1):=by
     rw[List.drop_eq_getElem_cons hil]
     congr 1
     rw[List.getElem?_eq_getElem hil]at hx;cases hx;rfl
    rw[hdr,folI_cons]at heq
    have hsm1:=hf1.small
    rw[List.length_append,List.length_singleton]at hsm1
    by_cases hk3:x.kind=3
    ·simp only[if_pos hk3]at heq
     have hc:=fun {K} h=>@cwFos l hl hit k (p++[n]) x.name d1 rs1 hf1 (by rw[List.length_append];simp only[List.length_singleton];omega) (by rw[List.length_append];simp only[List.length_singleton];omega) K h
     have hfq:=hfed k x.name d1 rs1 hf1
     generalize fol (visS) l k (p++[n]) x.name d1 rs1=q at*
     obtain⟨qe,qd,qs⟩:=q
     simp only at heq hc hfq
     (repeat' ((conv=>whnf);first|(with_reducible first|refine in_map hil ?_|refine ix_map hx ?_|refine hc ?_|refine Mu.intro (delM_name hf.pf hn hp) ?_)|refine zG ?_|apply zA|(apply zI;intro h)|exact zT));(all_goals conv=>whnf)
     all_goals first
      |(have hne:¬qe=0:=by first|assumption|(intro e;simp_all;done)
        rw[heq,if_neg hne]at hK
        simp only[if_neg hne]at hK
        exact hK)
      |(have h0:qe=0:=by first|assumption|(simp_all;done)
        have hfq:=hfq h0
        refine⟨(i+1,qd,qs),⟨hil,hfq.fine,by rw[heq,if_pos h0],by have:=hfq.le;simp only;omega,by have:=hfq.size;simp only;omega⟩,by simp only;omega,?_⟩
        simp only[Int.natCast_add,Int.natCast_one]
        (exact leA)
        done)
    ·simp only[if_neg hk3]at heq
     have hc:=fun {K} h=>@cwAdI x rs1 zo K h
     have hvz:=visS_sz x rs1
     generalize visS x rs1=q at*
     obtain⟨qe,qs⟩:=q
     simp only at heq hc hvz
     (repeat' ((conv=>whnf);first|(with_reducible first|refine in_map hil ?_|refine ix_map hx ?_|refine hc ?_|refine Mu.intro (delM_name hf.pf hn hp) ?_)|refine zG ?_|apply zA|(apply zI;intro h)|exact zT));(all_goals conv=>whnf)
     all_goals first
      |(have hne:¬qe=0:=by first|assumption|(intro e;simp_all;done)
        rw[heq,if_neg hne]at hK
        simp only[if_neg hne]at hK
        exact hK)
      |(have h0:qe=0:=by first|assumption|(simp_all;done)
        have hvz:=hvz h0
        refine⟨(i+1,d1,qs),⟨hil,hf1,by rw[heq,if_pos h0],by skip;simp only;omega,by skip;simp only;omega⟩,by simp only;omega,?_⟩
        simp only[Int.natCast_add,Int.natCast_one]
        (exact leA)
        done)
   ·have hie:i=df.items.length:=by omega
    rw[hie,List.drop_length,folI_nil]at heq
    rw[heq]at hK
    simp only[if_true]at hK
    (repeat' ((conv=>whnf);first|(with_reducible first|refine Mu.intro (updM_name hn) ?_|refine Mu.intro (delM_name hf.pf hn hp) ?_)|refine zG ?_|apply zA|(apply zI;intro h)|exact zT));(all_goals conv=>whnf)
    exact hK
noncomputable def gxEqB:Ctx:={N:=26,plan:=at1 6 (some (ln [1,3,5,7,9,11,13,15,17])) (fun _=>none)}
noncomputable def bxEqB:Code:=bdy Tryz.f237
abbrev ofxEqB:=@ofC Tryz.prog gxEqB 237 Tryz.f237 bxEqB Tryz.func237 zk zk zk zk
noncomputable def gxCan:Ctx:={N:=170,plan:=at1 13 (some (ln [1,3,5,7,9,11,13,15,17,19,21,23,25,26,28])) (at1 14 (some (ln [1,3,5,7,9,11,15,17,19,21,25,27,12,22,28,31,33,35,37,39])) (at1 19 (some (ln [1,3,5,7,9,11,13,15,17,19,21,23,25,27,29,31,33,35,37,39,41,43,45,46,49])) (fun _=>none))),hints:=at1 8 ([.virt 12 3]) (fun _=>[]),cut:=at1 7 (true) (fun _=>false)}
noncomputable def bxCan:Code:=bdy Tryz.f272
abbrev ofxCan:=@ofC Tryz.prog gxCan 272 Tryz.f272 bxCan Tryz.func272 zk zk zk zk
noncomputable def gxRests:Ctx:={N:=28,own:=at1 234 (true) (fun _=>false)}
noncomputable def bxRests:Code:=bdy Tryz.f236
abbrev ofxRests:=@ofC Tryz.prog gxRests 236 Tryz.f236 bxRests Tryz.func236 zk zk zk zk
noncomputable def gxComb:Ctx:={N:=20}
noncomputable def bxComb:Code:=bdy Tryz.f197
abbrev ofxComb:=@ofC Tryz.prog gxComb 197 Tryz.f197 bxComb Tryz.func197 zk zk zk zk
noncomputable def gxSet:Ctx:={N:=11}
noncomputable def bxSet:Code:=bdy Tryz.f240
abbrev ofxSet:=@ofC Tryz.prog gxSet 240 Tryz.f240 bxSet Tryz.func240 zk zk zk zk
noncomputable def gxOf:Ctx:={N:=33}
noncomputable def bxOf:Code:=bdy Tryz.f153
abbrev ofxOf:=@ofC Tryz.prog gxOf 153 Tryz.f153 bxOf Tryz.func153 zk zk zk zk
noncomputable def gxMake:Ctx:={N:=29,hints:=at1 2 ([.asL 4]) (fun _=>[])}
noncomputable def bxMake:Code:=bdy Tryz.f111
abbrev ofxMake:=@ofC Tryz.prog gxMake 111 Tryz.f111 bxMake Tryz.func111 zk zk zk zk
noncomputable def gxVald:Ctx:={N:=18}
noncomputable def bxVald:Code:=bdy Tryz.f72
abbrev ofxVald:=@ofC Tryz.prog gxVald 72 Tryz.f72 bxVald Tryz.func72 zk zk zk zk
noncomputable def gxDiv:Ctx:={N:=86,plan:=at1 6 (some (ln [1,3,5,7,9,11,13,15,17,19,21,23,25,27,29,31,33,35])) (at1 8 (some (.one 0 true (.one 1 true (.one 2 true (.one 3 true (.one 4 true (.one 5 true (.one 6 true (.one 7 true (.one 8 true (.alt 9 (ln [21,22,24]) (.alt 11 (ln [18,21,24]) (.stop))))))))))))) (at1 14 (some (ln [1,3,5,7,8,11])) (fun _=>none))),cut:=at1 8 (true) (at1 9 (true) (fun _=>false))}
noncomputable def bxDiv:Code:=bdy Tryz.f150
abbrev ofxDiv:=@ofC Tryz.prog gxDiv 150 Tryz.f150 bxDiv Tryz.func150 zk zk zk zk
noncomputable def gxInt:Ctx:={N:=11}
noncomputable def bxInt:Code:=bdy Tryz.f76
abbrev ofxInt:=@ofC Tryz.prog gxInt 76 Tryz.f76 bxInt Tryz.func76 zk zk zk zk
noncomputable def gxUn:Ctx:={N:=11}
noncomputable def bxUn:Code:=bdy Tryz.f114
abbrev ofxUn:=@ofC Tryz.prog gxUn 114 Tryz.f114 bxUn Tryz.func114 zk zk zk zk
noncomputable def gxSub:Ctx:={N:=11}
noncomputable def bxSub:Code:=bdy Tryz.f113
abbrev ofxSub:=@ofC Tryz.prog gxSub 113 Tryz.f113 bxSub Tryz.func113 zk zk zk zk
noncomputable def gxSubs:Ctx:={N:=15}
noncomputable def bxSubs:Code:=bdy Tryz.f73
abbrev ofxSubs:=@ofC Tryz.prog gxSubs 73 Tryz.f73 bxSubs Tryz.func73 zk zk zk zk
noncomputable def gxLst:Ctx:={N:=77,np:=1,own:=at1 238 (true) (fun _=>false),plan:=at1 10 (some (ln [1,3,5,7,9,11,13,15,17,21,23,25,27,29,31,33,37,39,18,34,40])) (fun _=>none),cut:=at1 5 (true) (fun _=>false)}
noncomputable def bxLst:Code:=bdy Tryz.f238
abbrev ofxLst:=@ofC Tryz.prog gxLst 238 Tryz.f238 bxLst Tryz.func238 zk zk zk zk
noncomputable def gxFst:Ctx:={N:=31,own:=at1 238 (true) (fun _=>false)}
noncomputable def bxFst:Code:=bdy Tryz.f151
abbrev ofxFst:=@ofC Tryz.prog gxFst 151 Tryz.f151 bxFst Tryz.func151 zk zk zk zk
noncomputable def gxVals:Ctx:={N:=17}
noncomputable def bxVals:Code:=bdy Tryz.f226
abbrev ofxVals:=@ofC Tryz.prog gxVals 226 Tryz.f226 bxVals Tryz.func226 zk zk zk zk
noncomputable def gxHdr:Ctx:={N:=17}
noncomputable def bxHdr:Code:=bdy Tryz.f290
abbrev ofxHdr:=@ofC Tryz.prog gxHdr 290 Tryz.f290 bxHdr Tryz.func290 zk zk zk zk
noncomputable def gxWith:Ctx:={N:=29}
noncomputable def bxWith:Code:=bdy Tryz.f239
abbrev ofxWith:=@ofC Tryz.prog gxWith 239 Tryz.f239 bxWith Tryz.func239 zk zk zk zk
noncomputable def gxTop:Ctx:={N:=12}
noncomputable def bxTop:Code:=bdy Tryz.f143
abbrev ofxTop:=@ofC Tryz.prog gxTop 143 Tryz.f143 bxTop Tryz.func143 zk zk zk zk
noncomputable def gxFull:Ctx:={N:=15}
noncomputable def bxFull:Code:=bdy Tryz.f142
abbrev ofxFull:=@ofC Tryz.prog gxFull 142 Tryz.f142 bxFull Tryz.func142 zk zk zk zk
noncomputable def gxBVal:Ctx:={N:=24,plan:=at1 4 (some (ln [1,3,5,7,9,11,13,15,17,19,21,23,25])) (fun _=>none)}
noncomputable def bxBVal:Code:=bdy Tryz.f225
abbrev ofxBVal:=@ofC Tryz.prog gxBVal 225 Tryz.f225 bxBVal Tryz.func225 zk zk zk zk
noncomputable def gxCov:Ctx:={N:=36,hints:=at1 2 ([.virt 7 10]) (fun _=>[])}
noncomputable def bxCov:Code:=bdy Tryz.f289
abbrev ofxCov:=@ofC Tryz.prog gxCov 289 Tryz.f289 bxCov Tryz.func289 zk zk zk zk
noncomputable def gxEither:Ctx:={N:=9}
noncomputable def bxEither:Code:=bdy Tryz.f198
abbrev ofxEither:=@ofC Tryz.prog gxEither 198 Tryz.f198 bxEither Tryz.func198 zk zk zk zk
noncomputable def gxBoth:Ctx:={N:=9}
noncomputable def bxBoth:Code:=bdy Tryz.f154
abbrev ofxBoth:=@ofC Tryz.prog gxBoth 154 Tryz.f154 bxBoth Tryz.func154 zk zk zk zk
noncomputable def gxWout:Ctx:={N:=10}
noncomputable def bxWout:Code:=bdy Tryz.f152
abbrev ofxWout:=@ofC Tryz.prog gxWout 152 Tryz.f152 bxWout Tryz.func152 zk zk zk zk
noncomputable def gxCuts:Ctx:={N:=47,own:=at1 324 (true) (at1 325 (true) (fun _=>false)),plan:=at1 8 (some (ln [1,3,5,7,9,11,13,15,17,19,21,23,24,26,29])) (fun _=>none)}
noncomputable def bxCuts:Code:=bdy Tryz.f288
abbrev ofxCuts:=@ofC Tryz.prog gxCuts 288 Tryz.f288 bxCuts Tryz.func288 zk zk zk zk
noncomputable def gxValC:Ctx:={N:=6}
noncomputable def bxValC:Code:=bdy Tryz.f235
abbrev ofxValC:=@ofC Tryz.prog gxValC 235 Tryz.f235 bxValC Tryz.func235 zk zk zk zk
noncomputable def gxIdx:Ctx:={N:=19}
noncomputable def bxIdx:Code:=bdy Tryz.f224
abbrev ofxIdx:=@ofC Tryz.prog gxIdx 224 Tryz.f224 bxIdx Tryz.func224 zk zk zk zk
noncomputable def gxClone:Ctx:={N:=8,res:=true}
noncomputable def bxClone:Code:=bdy Tryz.f234
abbrev ofxClone:=@ofC Tryz.prog gxClone 234 Tryz.f234 bxClone Tryz.func234 zk zk zk zk
noncomputable def gxDel:Ctx:={N:=42,np:=1,res:=true,lend:=at1 224 (true) (fun _=>false)}
noncomputable def bxDel:Code:=bdy Tryz.f233
abbrev ofxDel:=@ofC Tryz.prog gxDel 233 Tryz.f233 bxDel Tryz.func233 zk zk zk zk
noncomputable def gxVal:Ctx:={N:=6,own:=at1 234 (true) (at1 233 (true) (fun _=>false))}
noncomputable def bxVal:Code:=bdy Tryz.f149
abbrev ofxVal:=@ofC Tryz.prog gxVal 149 Tryz.f149 bxVal Tryz.func149 zk zk zk zk
noncomputable def gxDel0:Ctx:={N:=42}
noncomputable def bxDel0:Code:=bdy Tryz.f233
abbrev ofxDel0:=@ofC Tryz.prog gxDel0 233 Tryz.f233 bxDel0 Tryz.func233 zk zk zk zk
theorem cxTop(f:Int){K:KT}(hK:K (.v (.int .u32 (topI f))) []):ACall Tryz.prog 143 [.v (.int .i64 f)] [] K:=by
 refine ofxTop rfl rfl ?_
 by_cases h1:0<=f/\f<5
 ·have h2:f=0\/f=1\/f=2\/f=3\/f=4:=by omega
  rcases h2 with rfl|rfl|rfl|rfl|rfl
  all_goals
   (repeat' ((conv=>whnf);first|(refine in_c zd ?_)|refine zG ?_|apply zA|(apply zI;intro h)|exact zT));(all_goals conv=>whnf)
   exact hK
 ·(repeat' ((conv=>whnf);first|refine zG ?_|apply zA|(apply zI;intro h)|exact zT));(all_goals conv=>whnf)
  ·rw[show topI f=0 from by unfold topI;rw[if_neg zo,if_neg zo,if_neg zo]]at hK
   exact hK
  ·rw[show topI f=0 from by unfold topI;rw[if_neg zo,if_neg zo,if_neg zo]]at hK
   exact hK
theorem cxFull{K:KT}(hK:K (encX fullB) []):ACall Tryz.prog 142 [] [] K:=by
 refine ofxFull rfl rfl ?_
 (repeat' ((conv=>whnf);first|(with_reducible refine Lp.times 6 ?_)|(refine in_c zd ?_)|refine zG ?_|apply zA|(apply zI;intro h)|exact zT));(all_goals conv=>whnf)
 exact hK
theorem cxBVal(b:Bx){K:KT}(hK:K (.sb (decide b.ok)) []):ACall Tryz.prog 225 [encX b] [] K:=by
 refine ACall.bool (ofxBVal rfl rfl ?_)
 (repeat' ((conv=>whnf);first|(with_reducible refine Lp.times 6 ?_)|(refine in_c zd ?_)|refine zG ?_|apply zA|(apply zI;intro h)|exact zT));(all_goals conv=>whnf)
 all_goals
  have hb:b.ok↔((b.r0.lo<=b.r0.hi/\b.r0.hi<=4294967295)/\(b.r1.lo<=b.r1.hi/\b.r1.hi<=4294967295)/\(b.r2.lo<=b.r2.hi/\b.r2.hi<=255)/\(b.r3.lo<=b.r3.hi/\b.r3.hi<=65535)/\(b.r4.lo<=b.r4.hi/\b.r4.hi<=65535)):=Iff.rfl
  first
   |exact fin_f hK (decide_eq_false (by rw[hb];omega))
   |exact fin_t hK (decide_eq_true (by rw[hb];omega))
theorem cxEither(x y:Bool){K:KT}(hK:K (.sb (x||y)) []):ACall Tryz.prog 198 [.sb x,.sb y] [] K:=by
 refine ACall.bool (ofxEither rfl rfl ?_)
 (repeat' ((conv=>whnf);first|refine zG ?_|apply zA|(apply zI;intro h)|exact zT));(all_goals conv=>whnf)
 all_goals
  first
   |exact fin_s hK (by cases x<;>cases y<;>simp_all)
   |exact fin_t hK (by cases x<;>cases y<;>simp_all)
   |exact fin_f hK (by cases x<;>cases y<;>simp_all)
theorem cxBoth(x y:Bool){K:KT}(hK:K (.sb (x&&y)) []):ACall Tryz.prog 154 [.sb x,.sb y] [] K:=by
 refine ACall.bool (ofxBoth rfl rfl ?_)
 (repeat' ((conv=>whnf);first|refine zG ?_|apply zA|(apply zI;intro h)|exact zT));(all_goals conv=>whnf)
 all_goals
  first
   |exact fin_s hK (by cases x<;>cases y<;>simp_all)
   |exact fin_t hK (by cases x<;>cases y<;>simp_all)
   |exact fin_f hK (by cases x<;>cases y<;>simp_all)
theorem cxWout(x y:Bool){K:KT}(hK:K (.sb (x&& !y)) []):ACall Tryz.prog 152 [.sb x,.sb y] [] K:=by
 refine ACall.bool (ofxWout rfl rfl ?_)
 (repeat' ((conv=>whnf);first|refine zG ?_|apply zA|(apply zI;intro h)|exact zT));(all_goals conv=>whnf)
 all_goals
  first
   |exact fin_s hK (by cases x<;>cases y<;>simp_all)
   |exact fin_t hK (by cases x<;>cases y<;>simp_all)
   |exact fin_f hK (by cases x<;>cases y<;>simp_all)
theorem cxValC(x:Bx){K:KT}(hK:K (.sb (!decide x.ok)) []):ACall Tryz.prog 235 [encX x] [] K:=by
 refine ACall.bool (ofxValC rfl rfl ?_)
 (repeat' ((conv=>whnf);first|(with_reducible refine cxBVal x ?_)|refine zG ?_|apply zA|(apply zI;intro h)|exact zT));(all_goals conv=>whnf)
 exact fin_s hK rfl
theorem cxClone(l:List Bx)(hl:l.length<1000000000){K:KT}(hK0:l=[]->K .nils [])(hK:K (.os 0 10 0 l.length) [.arr 10 (l.map encX)]):ACall Tryz.prog 234 [encXs l] [] K:=by
 refine ofxClone rfl rfl ?_
 (repeat' ((conv=>whnf);first|refine zG ?_|apply zA|(apply zI;intro h)|exact zT));(all_goals conv=>whnf)
 intro b hb
 (repeat' ((conv=>whnf);first|refine zG ?_|apply zA|(apply zI;intro h)|exact zT));(all_goals conv=>whnf)
 ·exact hK0 (List.map_eq_nil_iff.1 (hb zp))
 ·have e:0+(l.map encX).length=l.length:=by rw[List.length_map];omega
  show K (.os 0 10 0 (0+(l.map encX).length)) [.arr 10 (l.map encX)]
  rw[e]
  exact hK
theorem cxIdx(l:List Bx)(hl:l.length<1000000000){K:KT}(hK1:(∀x,x∈l->x.ok)->K (.v (.int .i64 (-1))) [])
  (hK2:∀(i:Nat) x,l[i]? =some x->¬x.ok->(∀y,y∈l.take i->y.ok)->K (.v (.int .i64 i)) []):
  ACall Tryz.prog 224 [encXs l,.fn (.func 235) [] []] [] K:=by
 refine ofxIdx rfl rfl ?_
 (repeat' ((conv=>whnf);first|refine zG ?_|apply zA|(apply zI;intro h)|exact zT));(all_goals conv=>whnf)
 refine Lp.intro Nat (fun k=>⟨0,[],[(0,encXs l),(1,.fn (.func 235) [] []),(7,.v (.int .i64 ((l.map encX).length:Nat))),(8,.v (.int .i64 k))]⟩) (fun k=>k<=l.length/\∀y,y∈l.take k->y.ok) (fun k=>l.length-k) 0 ⟨Nat.zero_le _,by simp⟩ ?_ ?_
 ·(exact leA)
 intro k ⟨hk,hin⟩
 rcases Nat.lt_or_ge k l.length with hkl|hkl
 ·obtain⟨x,hx⟩:=gex hkl
  (repeat' ((conv=>whnf);first|(with_reducible first|refine in_map hkl ?_|refine ix_map hx ?_|refine cxValC x ?_)|refine zG ?_|apply zA|(apply zI;intro h)|exact zT));(all_goals conv=>whnf)
  all_goals first
   |exact hK2 k x hx (by simpa using h) hin
   |(refine⟨k+1,⟨hkl,fun y hy=>?_⟩,by omega,?_⟩
     ·rw[List.take_add_one,hx]at hy
      rcases List.mem_append.1 hy with hy|hy
      ·exact hin y hy
      ·simp only[Option.toList_some,List.mem_singleton]at hy
       subst hy
       simpa using h
     ·rw[Int.natCast_add,Int.natCast_one]
      (exact leA))
 ·rw[List.take_of_length_le hkl]at hin
  (repeat' ((conv=>whnf);first|refine zG ?_|apply zA|(apply zI;intro h)|exact zT));(all_goals conv=>whnf)
  exact hK1 hin
theorem cxDel(l:List Bx)(hl:l.length<1000000000){K:KT}(hK:∀zs,K (.os 0 10 0 (vldB l).length) [.arr 10 ((vldB l).map encX++zs)]):
  ACall Tryz.prog 233 [.os 0 10 0 l.length,.fn (.func 235) [] []] [.arr 10 (l.map encX)] K:=by
 refine ofxDel rfl rfl ?_
 (repeat' ((conv=>whnf);first|refine zG ?_|apply zA|(apply zI;intro h)|exact zT));(all_goals conv=>whnf)
 refine cxIdx l hl (fun hall=>?_) (fun i x hx hbad hbef=>?_)
 ·have e:vldB l=l:=List.filter_eq_self.2 fun y hy=>by simpa using hall y hy
  have:=hK []
  rw[e,List.append_nil]at this
  (repeat' ((conv=>whnf);first|refine zG ?_|apply zA|(apply zI;intro h)|exact zT));(all_goals conv=>whnf)
  exact this
 ·have hil:i<l.length:=(List.getElem?_eq_some_iff.1 hx).1
  have e0:vldB (l.take i)=l.take i:=List.filter_eq_self.2 fun y hy=>by simpa using hbef y hy
  have e1:vldB (l.take (i+1))=l.take i:=by rw[vldB_succ hx,if_neg hbad,e0,List.append_nil]
  have e2:(l.take i).length=i:=by rw[List.length_take];omega
  (repeat' ((conv=>whnf);first|refine zG ?_|apply zA|(apply zI;intro h)|exact zT));(all_goals conv=>whnf)
  refine Lp.intro Nat (fun j=>⟨1,[(0,.arr 10 ((vldB (l.take j)++l.drop (vldB (l.take j)).length).map encX))],[(0,.os 0 10 0 l.length),(1,.fn (.func 235) [] []),(5,.v (.int .i64 (vldB (l.take j)).length)),(6,.v (.int .i64 j))]⟩) (fun j=>j<=l.length/\(vldB (l.take j)).length<j) (fun j=>l.length-j) (i+1) ⟨hil,by rw[e1,e2];omega⟩ ?_ ?_
  ·rw[e1,e2,List.take_append_drop,Int.natCast_add,Int.natCast_one]
   (exact leA)
  intro j ⟨hj1,hj2⟩
  rcases Nat.lt_or_ge j l.length with hjl|hjl
  ·obtain⟨y,hy⟩:=gex hjl
   have hs:=vldB_succ hy
   generalize hC:vldB (l.take j)=C at*
   have hget:∀i,C.length<=i->(C++l.drop C.length)[i]? =l[i]? :=fun i hi=>by
    rw[List.getElem?_append_right hi,List.getElem?_drop]
    congr 1;omega
   have hCn:C.length<l.length:=by omega
   have hy0:(C++l.drop C.length)[0+j]? =some y:=by rw[Nat.zero_add,hget _ zo];exact hy
   obtain⟨z,hz⟩:∃z,l[C.length]? =some z:=⟨_,List.getElem?_eq_getElem hCn⟩
   have hz0:(C++l.drop C.length)[0+C.length]? =some z:=by rw[Nat.zero_add,hget _ (Nat.le_refl _)];exact hz
   have hdr:l.drop C.length=z::l.drop (C.length+1):=by
    rw[List.getElem?_eq_getElem hCn]at hz
    rw[<-Option.some.inj hz,<-List.drop_eq_getElem_cons hCn]
   have hset:((C++l.drop C.length).map encX).set (0+C.length) (encX y)=((C++[y])++l.drop (C++[y]).length).map encX:=by
    rw[Nat.zero_add,<-List.map_set,List.set_append_right _ _ (Nat.le_refl _),Nat.sub_self,hdr]
    simp
   (repeat' ((conv=>whnf);first|(with_reducible first|refine in_nat hjl ?_|refine ix_map hy0 ?_|refine cxValC y ?_|refine in_nat hCn ?_|refine ix_map hz0 ?_)|refine zG ?_|apply zA|(apply zI;intro h)|exact zT));(all_goals conv=>whnf)
   ·rw[if_pos h]at hs
    refine⟨j+1,⟨hjl,by rw[hs,List.length_append];simp;omega⟩,by omega,?_⟩
    rw[hs,<-hset,show((C++[y]).length:Int)=(C.length:Int)+1 by simp,Int.natCast_add j,Int.natCast_one]
    (exact leA)
   ·rw[if_neg h,List.append_nil]at hs
    refine⟨j+1,⟨hjl,by rw[hs];omega⟩,by omega,?_⟩
    rw[hs,Int.natCast_add j,Int.natCast_one]
    (exact leA)
  ·have hCl:vldB (l.take j)=vldB l:=by rw[List.take_of_length_le hjl]
   have hCn:(vldB l).length<=l.length:=vldB_len l
   rw[hCl]
   (repeat' ((conv=>whnf);first|(refine Sb.intro (vldB l).length l.length rfl rfl hCn (Nat.le_refl _) ?_)|(refine Sb.intro 0 (vldB l).length rfl rfl (Nat.zero_le _) hCn ?_)|refine zG ?_|apply zA|(apply zI;intro h)|exact zT));(all_goals conv=>whnf)
   have e3:(List.map encX (vldB l++l.drop (vldB l).length)).take (0+(vldB l).length)=(vldB l).map encX:=by
    rw[Nat.zero_add,List.map_append,List.take_left' zx]
   rw[e3,Nat.add_zero,Nat.sub_zero]
   exact hK _
theorem cxIdx0{K:KT}(hK:K (.v (.int .i64 (-1))) []):
  ACall Tryz.prog 224 [.lst [],.fn (.func 235) [] []] [] K:=
 cxIdx [] zd (fun _=>hK) (fun i x h=>by simp at h)
theorem cxDel0{K:KT}(hK:K .nils []):
  ACall Tryz.prog 233 [.nils,.fn (.func 235) [] []] [] K:=by
 refine ofxDel0 rfl rfl ?_
 (repeat' ((conv=>whnf);first|(with_reducible refine cxIdx0 ?_)|refine zG ?_|apply zA|(apply zI;intro h)|exact zT));(all_goals conv=>whnf)
 exact hK
theorem cxVal(l:List Bx)(hl:l.length<1000000000){K:KT}(hK:K (encXs (vldB l)) []):ACall Tryz.prog 149 [encXs l] [] K:=by
 refine ACall.weak (ofxVal rfl rfl ?_)
 (repeat' ((conv=>whnf);first|refine zG ?_|apply zA|(apply zI;intro h)|exact zT));(all_goals conv=>whnf)
 refine cxClone l hl (fun e=>?_) ?_
 ·subst e
  (repeat' ((conv=>whnf);first|(with_reducible refine cxDel0 ?_)|refine zG ?_|apply zA|(apply zI;intro h)|exact zT));(all_goals conv=>whnf)
  exact⟨_,Weak.nils,hK⟩
 ·(repeat' ((conv=>whnf);first|(with_reducible refine cxDel l hl fun zs=>?_)|refine zG ?_|apply zA|(apply zI;intro h)|exact zT));(all_goals conv=>whnf)
  refine Sl.intro (ys:=(vldB l).map encX) zx (by rw[List.drop_zero,List.take_left' zx]) ?_
  exact⟨_,Weak.refl,hK⟩
theorem cxCov(l:List Bx)(f:Nat)(hf:f<=4)(v:Int)(hl:l.length<1000000000000){K:KT}(hK:K (encXs (atF f v l)) []):ACall Tryz.prog 289 [encXs l,.v (.int .i64 f),.v (.int .u32 v)] [] K:=by
 refine ofxCov rfl rfl ?_
 (repeat' ((conv=>whnf);first|refine zG ?_|apply zA|(apply zI;intro h)|exact zT));(all_goals conv=>whnf)
 refine Lp.intro Nat (fun k=>⟨1,[(0,.arr 10 ((atF f v (l.take k)).map encX))],[(1,.v (.int .i64 f)),(2,.v (.int .u32 v)),(7,.os 0 10 0 (atF f v (l.take k)).length),(10,encXs l),(11,.v (.int .i64 l.length)),(12,.v (.int .i64 k))]⟩) (fun k=>k<=l.length) (fun k=>l.length-k) 0 (Nat.zero_le _) ?_ ?_
 ·have e1:(List.map encX l).length=l.length:=List.length_map ..
  rw[e1]
  (exact leA)
 intro k hk
 have hlen:=atF_len f v (l.take k)
 rw[List.length_take]at hlen
 rcases Nat.lt_or_ge k l.length with hkl|hkl
 ·obtain⟨x,hx⟩:=gex hkl
  have hs:=atF_succ (f:=f) (v:=v) hx
  rcases f with _|_|_|_|_|f
  case succ.succ.succ.succ.succ=>omega
  all_goals
   simp only[Bx.get]at hs
   (repeat' ((conv=>whnf);first|(with_reducible first|refine in_map hkl ?_|refine in_nat hkl ?_|refine ix_map hx ?_)|(refine in_c zd ?_)|refine zG ?_|apply zA|(apply zI;intro h)|exact zT));(all_goals conv=>whnf)
   all_goals
    refine⟨k+1,by omega,by omega,?_⟩
    first
     |(rw[if_pos zo]at hs
       rw[hs,List.map_append,List.length_append]
       (exact leA)
       done)
     |(rw[if_neg zo,List.append_nil]at hs
       rw[hs]
       (exact leA)
       done)
 ·(repeat' ((conv=>whnf);first|refine zG ?_|apply zA|(apply zI;intro h)|exact zT));(all_goals conv=>whnf)
  rw[List.take_of_length_le hkl]at*
  (repeat' ((conv=>whnf);first|refine zG ?_|apply zA|(apply zI;intro h)|exact zT));(all_goals conv=>whnf)
  exact hK
noncomputable def gsNaN:Ctx:={N:=6}
noncomputable def bsNaN:Code:=bdy Tryz.f362
abbrev ofsNaN:=@ofC Tryz.prog gsNaN 362 Tryz.f362 bsNaN Tryz.func362 zk zk zk zk
noncomputable def gsLess:Ctx:={N:=17}
noncomputable def bsLess:Code:=bdy Tryz.f353
abbrev ofsLess:=@ofC Tryz.prog gsLess 353 Tryz.f353 bsLess Tryz.func353 zk zk zk zk
noncomputable def gsIns:Ctx:={N:=49,np:=1,plan:=at1 4 (some (ln [1,3,5,7,9,11,13,15,17,19,21,23,25,26,29])) (at1 6 (some (ln [1,3,5,7,9,11,13,15,17,19,21,23,25,27,29,30,33,34])) (fun _=>none))}
noncomputable def bsIns:Code:=bdy Tryz.f347
abbrev ofsIns:=@ofC Tryz.prog gsIns 347 Tryz.f347 bsIns Tryz.func347 zk zk zk zk
noncomputable def gsSift:Ctx:={N:=76,np:=1,plan:=at1 3 (some (ln [1,3,5,7,9,11,13,15,17,19,21,23,25,27,29,31,33,35,36,39])) (at1 5 (some (ln [1,3,5,7,9,11,13,15,17,19,21,23,24,27])) (at1 6 (some (ln [1,3,5,7,9,11,13,15,17,19,21,23,25,27,29,31,33,35,37,39,41,42,45,46])) (fun _=>none)))}
noncomputable def bsSift:Code:=bdy Tryz.f359
abbrev ofsSift:=@ofC Tryz.prog gsSift 359 Tryz.f359 bsSift Tryz.func359 zk zk zk zk
noncomputable def gsHeap:Ctx:={N:=56,np:=1,own:=at1 359 (true) (fun _=>false),plan:=at1 10 (some (ln [1,3,5,7,9,11,13,15,17,19,21,23,25,27,29,31,33,34,37,38])) (fun _=>none)}
noncomputable def bsHeap:Code:=bdy Tryz.f348
abbrev ofsHeap:=@ofC Tryz.prog gsHeap 348 Tryz.f348 bsHeap Tryz.func348 zk zk zk zk
noncomputable def gsRev:Ctx:={N:=32,np:=1,plan:=at1 3 (some (ln [1,3,5,7,9,11,13,15,17,19,21,23,25,26,29,30])) (fun _=>none)}
noncomputable def bsRev:Code:=bdy Tryz.f351
abbrev ofsRev:=@ofC Tryz.prog gsRev 351 Tryz.f351 bsRev Tryz.func351 zk zk zk zk
noncomputable def gsPart:Ctx:={N:=168,np:=1,plan:=at1 1 (some (ln [1,3,5,7,9,11,13,15,17,19,21,23,25,26,29,30])) (at1 3 (some (ln [1,3,5,7,9,11,13,15,17,19,21,23,24,27])) (at1 5 (some (ln [1,3,5,7,9,11,13,15,17,19,21,23,24,27,29])) (at1 8 (some (ln [1,3,5,7,9,11,13,15,17,19,21,23,25,26,29,30])) (at1 10 (some (ln [1,3,5,7,9,11,13,15,17,19,21,23,25,26,29,30])) (at1 13 (some (ln [1,3,5,7,9,11,13,15,17,19,21,23,24,27])) (at1 15 (some (ln [1,3,5,7,9,11,13,15,17,19,21,23,24,27,29])) (at1 18 (some (ln [1,3,5,7,9,11,13,15,17,19,21,23,25,26,29,30])) (at1 21 (some (ln [1,3,5,7,9,11,13,15,17,19,21,23,25,26,29,30])) (fun _=>none))))))))),cut:=at1 5 (true) (at1 7 (true) (at1 15 (true) (at1 17 (true) (fun _=>false))))}
noncomputable def bsPart:Code:=bdy Tryz.f355
abbrev ofsPart:=@ofC Tryz.prog gsPart 355 Tryz.f355 bsPart Tryz.func355 zk zk zk zk
noncomputable def gsPeq:Ctx:={N:=84,np:=1,plan:=at1 1 (some (ln [1,3,5,7,9,11,13,15,17,19,21,23,25,26,29,30])) (at1 3 (some (ln [1,3,5,7,9,11,13,15,17,19,21,23,24,27,29])) (at1 5 (some (ln [1,3,5,7,9,11,13,15,17,19,21,23,24,27])) (at1 8 (some (ln [1,3,5,7,9,11,13,15,17,19,21,23,25,26,29,30])) (fun _=>none)))),cut:=at1 5 (true) (at1 7 (true) (fun _=>false))}
noncomputable def bsPeq:Code:=bdy Tryz.f354
abbrev ofsPeq:=@ofC Tryz.prog gsPeq 354 Tryz.f354 bsPeq Tryz.func354 zk zk zk zk
noncomputable def gsPins:Ctx:={N:=133,np:=1,plan:=at1 5 (some (ln [1,3,5,7,9,11,13,15,17,19,21,23,25,26,29,31])) (at1 11 (some (ln [1,3,5,7,9,11,13,15,17,19,21,23,25,27,29,30,33,34])) (at1 16 (some (ln [1,3,5,7,9,11,13,15,17,18,21])) (at1 17 (some (ln [1,3,5,7,9,11,13,15,17,19,21,23,25,27,29,30,33,34])) (at1 22 (some (ln [1,3,5,7,9,11,13,15,17,18,21])) (at1 23 (some (ln [1,3,5,7,9,11,13,15,17,19,21,23,25,27,29,30,33,34])) (fun _=>none)))))),cut:=at1 7 (true) (at1 18 (true) (fun _=>false))}
noncomputable def bsPins:Code:=bdy Tryz.f352
abbrev ofsPins:=@ofC Tryz.prog gsPins 352 Tryz.f352 bsPins Tryz.func352 zk zk zk zk
noncomputable def gsOrd2:Ctx:={N:=28,np:=2,plan:=at1 1 (some (ln [1,3,5,7,9,11,13,15,16])) (fun _=>none)}
noncomputable def bsOrd2:Code:=bdy Tryz.f364
abbrev ofsOrd2:=@ofC Tryz.prog gsOrd2 364 Tryz.f364 bsOrd2 Tryz.func364 zk zk zk zk
noncomputable def gsMed:Ctx:={N:=36,np:=2,own:=at1 364 (true) (fun _=>false)}
noncomputable def bsMed:Code:=bdy Tryz.f361
abbrev ofsMed:=@ofC Tryz.prog gsMed 361 Tryz.f361 bsMed Tryz.func361 zk zk zk zk
noncomputable def gsMedA:Ctx:={N:=15,np:=2,own:=at1 361 (true) (fun _=>false)}
noncomputable def bsMedA:Code:=bdy Tryz.f360
abbrev ofsMedA:=@ofC Tryz.prog gsMedA 360 Tryz.f360 bsMedA Tryz.func360 zk zk zk zk
noncomputable def gsPiv:Ctx:={N:=57,np:=1,own:=at1 361 (true) (at1 360 (true) (fun _=>false))}
noncomputable def bsPiv:Code:=bdy Tryz.f350
abbrev ofsPiv:=@ofC Tryz.prog gsPiv 350 Tryz.f350 bsPiv Tryz.func350 zk zk zk zk
noncomputable def gsLen64:Ctx:={N:=25}
noncomputable def bsLen64:Code:=bdy Tryz.f209
abbrev ofsLen64:=@ofC Tryz.prog gsLen64 209 Tryz.f209 bsLen64 Tryz.func209 zk zk zk zk
noncomputable def gsLen:Ctx:={N:=8}
noncomputable def bsLen:Code:=bdy Tryz.f116
abbrev ofsLen:=@ofC Tryz.prog gsLen 116 Tryz.f116 bsLen Tryz.func116 zk zk zk zk
noncomputable def gsPow2:Ctx:={N:=7}
noncomputable def bsPow2:Code:=bdy Tryz.f274
abbrev ofsPow2:=@ofC Tryz.prog gsPow2 274 Tryz.f274 bsPow2 Tryz.func274 zk zk zk zk
noncomputable def gsNext:Ctx:={N:=33,np:=1,plan:=at1 1 (some (ln [1,3,5,7,9,11,13,15,17,18])) (at1 2 (some (ln [1,3,5,7,9,11,13,15,17,18])) (at1 3 (some (ln [1,3,5,7,9,11,13,15,17,18])) (fun _=>none)))}
noncomputable def bsNext:Code:=bdy Tryz.f275
abbrev ofsNext:=@ofC Tryz.prog gsNext 275 Tryz.f275 bsNext Tryz.func275 zk zk zk zk
noncomputable def gsBrk:Ctx:={N:=65,np:=1,own:=at1 275 (true) (fun _=>false),plan:=at1 10 (some (ln [1,3,5,7,9,11,13,15,17,19,21,23,25,27,29,31,33,34,37,38])) (fun _=>none)}
noncomputable def bsBrk:Code:=bdy Tryz.f349
abbrev ofsBrk:=@ofC Tryz.prog gsBrk 349 Tryz.f349 bsBrk Tryz.func349 zk zk zk zk
noncomputable def gsPdq:Ctx:={N:=134,np:=1,own:=at1 347 (true) (at1 348 (true) (at1 349 (true) (at1 350 (true) (at1 351 (true) (at1 352 (true) (at1 354 (true) (at1 355 (true) (at1 337 (true) (fun _=>false))))))))),plan:=at1 17 (some (ln [1,3,5,7,9,11,13,15,17,19,21,23,24,27,29])) (fun _=>none),cut:=at1 10 (true) (at1 15 (true) (at1 17 (true) (fun _=>false)))}
noncomputable def bsPdq:Code:=bdy Tryz.f337
abbrev ofsPdq:=@ofC Tryz.prog gsPdq 337 Tryz.f337 bsPdq Tryz.func337 zk zk zk zk
noncomputable def gsSort:Ctx:={N:=11,np:=1,own:=at1 337 (true) (fun _=>false)}
noncomputable def bsSort:Code:=bdy Tryz.f324
abbrev ofsSort:=@ofC Tryz.prog gsSort 324 Tryz.f324 bsSort Tryz.func324 zk zk zk zk
noncomputable def gsComp:Ctx:={N:=61,np:=1,plan:=at1 6 (some (ln [1,3,5,7,9,11,13,15,17,19])) (at1 11 (some (ln [1,3,5,7,9,11,13,15,17,19])) (fun _=>none)),res:=true}
noncomputable def bsComp:Code:=bdy Tryz.f325
abbrev ofsComp:=@ofC Tryz.prog gsComp 325 Tryz.f325 bsComp Tryz.func325 zk zk zk zk
noncomputable abbrev encZ(z:Int):AV:=.v (.int .u64 z)
noncomputable abbrev rowZ(d:Array Int):Vm.Obj:=.arr 1 (d.toList.map encZ)
theorem z_get{d:Array Int}{i:Nat}(h:i<d.size):d.toList[i]? =some d[i]! :=by
 rw[Array.getElem?_toList,Array.getElem?_eq_getElem h,getElem!_pos d i h]
theorem ix_z{d:Array Int}{i:Nat}{K:AV->Prop}(h:i<d.size)(hk:K (encZ d[i]!)):Ix (d.toList.map encZ) (0+i) K:=by
 rw[Nat.zero_add]
 exact ix_map (z_get h) hk
theorem swp_z{d:Array Int}{i j:Nat}:((d.toList.map encZ).set i (encZ d[j]!)).set j (encZ d[i]!)=(Sort.swp d i j).toList.map encZ:=by
 rw[<-List.map_set,<-List.map_set]
 simp[Sort.swp]
theorem ix_zs{d:Array Int}{i j:Nat}{x:AV}{K:AV->Prop}(hij:i≠j)(h:j<d.size)(hk:K (encZ d[j]!)):Ix ((d.toList.map encZ).set (0+i) x) (0+j) K:=by
 rw[Nat.zero_add,Nat.zero_add]
 exact Ix.intro (by rw[List.getElem?_set_ne hij,List.getElem?_map,z_get h];rfl) hk
theorem ix_zw{d:Array Int}{i j:Nat}{y:Int}{K:AV->Prop}(h:j<d.size)(hk:∀z,K (encZ z)):Ix ((d.toList.map encZ).set (0+i) (encZ y)) (0+j) K:=by
 rw[Nat.zero_add,Nat.zero_add]
 rcases Nat.decEq i j with hij|rfl
 ·exact Ix.intro (by rw[List.getElem?_set_ne hij,List.getElem?_map,z_get h];rfl) (hk _)
 ·exact Ix.intro (by rw[List.getElem?_set_self (by simpa using h)]) (hk _)
theorem swp0{d:Array Int}{i j:Nat}:((d.toList.map encZ).set (0+i) (encZ d[j]!)).set (0+j) (encZ d[i]!)=(Sort.swp d i j).toList.map encZ:=by rw[Nat.zero_add,Nat.zero_add];exact swp_z
theorem swp_size{d:Array Int}{i j:Nat}:(Sort.swp d i j).size=d.size:=by simp[Sort.swp]
theorem csNaN(x:Int){K:KT}(hK:K (.sb false) []):ACall Tryz.prog 362 [encZ x] [] K:=by
 refine ofsNaN rfl rfl ?_
 (repeat' ((conv=>whnf);first|refine zG ?_|apply zA|(apply zI;intro h)|exact zT));(all_goals conv=>whnf)
 have e:(!decide (x=x))=false:=by simp
 unfold one?
 rw[e]
 exact hK
theorem csLess(x y:Int){K:KT}(hK:K (.sb (Sort.ltInt x y)) []):ACall Tryz.prog 353 [encZ x,encZ y] [] K:=by
 refine ACall.bool (ofsLess rfl rfl ?_)
 (repeat' ((conv=>whnf);first|(with_reducible refine csNaN _ ?_)|refine zG ?_|apply zA|(apply zI;intro h)|exact zT));(all_goals conv=>whnf)
 exact fin_s hK rfl
theorem csIns(d:Array Int)(a b:Nat)(hab:a<=b)(hb:b<=d.size)(hsz:d.size<1000000000000){K:KT}(hK:K (.tup []) [rowZ (Sort.insertionSort Sort.ltInt d a b)]):
  ACall Tryz.prog 347 [.os 0 1 0 d.size,.v (.int .i64 a),.v (.int .i64 b)] [rowZ d] K:=by
 refine ofsIns rfl rfl ?_
 (repeat' ((conv=>whnf);first|refine zG ?_|apply zA|(apply zI;intro h)|exact zT));(all_goals conv=>whnf)
 refine Lp.intro (Nat×Array Int) (fun g=>⟨1,[(0,rowZ g.2)],[(0,.os 0 1 0 d.size),(1,.v (.int .i64 a)),(2,.v (.int .i64 b)),(6,.v (.int .i64 g.1))]⟩)
  (fun g=>g.2.size=d.size/\a+1<=g.1/\g.1<=d.size+1/\Sort.insOuter Sort.ltInt a b g.1 g.2=Sort.insertionSort Sort.ltInt d a b) (fun g=>b-g.1) (a+1,d) ⟨rfl,Nat.le_refl _,by omega,rfl⟩ ?_ ?_
 ·dsimp only
  rw[Int.natCast_add,Int.natCast_one]
  (exact leA)
 rintro⟨i,e⟩ ⟨he,hi1,hi2,ht⟩
 simp only at he hi1 hi2 ht⊢
 rw[Sort.insOuter]at ht
 rcases Nat.lt_or_ge i b with hib|hib
 ·rw[if_pos hib]at ht
  (repeat' ((conv=>whnf);first|refine zG ?_|apply zA|(apply zI;intro h)|exact zT));(all_goals conv=>whnf)
  refine Lp.intro (Nat×Array Int) (fun g=>⟨1,[(0,rowZ g.2)],[(0,.os 0 1 0 d.size),(1,.v (.int .i64 a)),(2,.v (.int .i64 b)),(6,.v (.int .i64 i)),(7,.v (.int .i64 g.1))]⟩)
   (fun g=>g.2.size=d.size/\a<=g.1/\g.1<=i/\Sort.insInner Sort.ltInt a g.1 g.2=Sort.insInner Sort.ltInt a i e) (fun g=>g.1) (i,e) ⟨he,by omega,Nat.le_refl _,rfl⟩ ?_ ?_
  ·(exact leA)
  rintro⟨j,f⟩ ⟨hf,hj1,hj2,hg⟩
  simp only at hf hj1 hj2 hg⊢
  have n1:j<d.size:=by omega
  have n1':j<f.size:=by omega
  rcases Nat.lt_or_ge a j with haj|haj
  ·obtain⟨m,rfl⟩:∃m,j=m+1:=⟨j-1,by omega⟩
   have n2:m<d.size:=by omega
   have n2':m<f.size:=by omega
   have hm:((m+1:Nat):Int)-1=(m:Nat):=by omega
   (repeat' ((conv=>whnf);first|(with_reducible first|refine csLess _ _ ?_|refine in_nat n1 ?_|refine In.intro m hm n2 ?_|refine ix_z n1' ?_|refine ix_z n2' ?_|refine ix_zs (Nat.succ_ne_self m) n2' ?_)|refine zG ?_|apply zA|(apply zI;intro h)|exact zT));(all_goals conv=>whnf)
   ·refine⟨(m,Sort.swp f (m+1) m),⟨by rw[swp_size,hf],by omega,by omega,?_⟩,by dsimp only;omega,?_⟩
    ·rw[<-hg]
     simp only[Sort.insInner]
     rw[if_pos]
     simp only[Bool.and_eq_true,decide_eq_true_eq]
     exact⟨haj,h⟩
    ·dsimp only
     rw[hm,swp0]
     (exact leA)
   ·refine⟨(i+1,f),⟨hf,by omega,by omega,?_⟩,by dsimp only;omega,?_⟩
    ·rw[<-ht,<-hg]
     simp only[Sort.insInner]
     rw[if_neg]
     simp[h]
    ·dsimp only
     rw[Int.natCast_add,Int.natCast_one]
     (exact leA)
  ·have hja:j=a:=by omega
   subst hja
   (repeat' ((conv=>whnf);first|refine zG ?_|apply zA|(apply zI;intro h)|exact zT));(all_goals conv=>whnf)
   refine⟨(i+1,f),⟨hf,by omega,by omega,?_⟩,by dsimp only;omega,?_⟩
   ·rw[<-ht,<-hg]
    cases j with
    |zero=>rfl
    |succ j=>simp only[Sort.insInner];rw[if_neg];simp
   ·dsimp only
    rw[Int.natCast_add,Int.natCast_one]
    (exact leA)
 ·rw[if_neg zo]at ht
  rw[<-ht]at hK
  (repeat' ((conv=>whnf);first|refine zG ?_|apply zA|(apply zI;intro h)|exact zT));(all_goals conv=>whnf)
  exact hK
end Go.Proofs.YtbdikofefjljoaaGreatDoor
