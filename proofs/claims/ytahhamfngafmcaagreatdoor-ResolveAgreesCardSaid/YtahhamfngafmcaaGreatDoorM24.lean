/- The generator: prefixes; prefixes and topologies with one property changed: some prefix, some small topology. -/
import Derived.Test.YtahhamfngafmcaaGreatDoorProg
import Derived.Test.YtahhamfngafmcaaGreatDoorM23
set_option linter.unusedVariables false
set_option linter.unusedSimpArgs false
set_option maxRecDepth 100000
set_option maxHeartbeats 4000000
namespace Go.Proofs.YtahhamfngafmcaaGreatDoor
open Go Go.Vm
theorem bb_u32(op:BinOp)(a b:Int):0<=bBits op .u32 a b/\bBits op .u32 a b<=4294967295:=by
 have h:∀e:Int,0<=IntKind.u32.wrap e/\IntKind.u32.wrap e<=4294967295:=fun e=>by
  simp only[IntKind.wrap,IntKind.signed,IntKind.bits];simp;omega
 unfold bBits
 simp only
 split<;>exact h _
theorem wr_i64_any{e:Int}{K:Int->Prop}(h:∀r,K r):Wr .i64 e K:=wr_any h
theorem ix_intsB{xs:List AV}{i:Nat}{K:AV->Prop}(L:List Int)(n:Nat)(lo hi:Int)(h:xs=L.map fun c=>.v (.int .i64 c))(hn:L.length=n)(hb:(L.all fun c=>decide (lo<=c)&&decide (c<=hi))=true)(hi':i<n)(hk:∀c,lo<=c->c<=hi->K (.v (.int .i64 c))):Ix xs i K:=
 ix_ints L n h hn hi' fun c hc=>by
  have:=List.all_eq_true.1 hb c hc
  simp only[Bool.and_eq_true,decide_eq_true_eq]at this
  exact hk c this.1 this.2
theorem cnSpP(raw:List Int)(pos:Nat)(p:Pf)(hp:pos<=raw.length)(hr:raw.length<=9223372036854775807){K:KT}
  (hK:∀(q:Pf) (pos':Nat),pos'<=raw.length->K (encP q) [tapeO raw pos']):ACall Tryz.prog 106 [.op 0 0,encP p] [tapeO raw pos] K:=by
 have b0:=p.a0;have b1:=p.a1
 refine ofnSpP rfl rfl ?_
 (repeat' ((conv=>whnf);first|(with_reducible first|refine nNext raw _ _ zo zp hr fun m1 p1 hm1 hp1=>?_|refine in_nat zo ?_|refine ix_ints [-1,33,0,32] 4 rfl rfl zo fun c hc=>?_|refine wr_u32_any fun r r0 r1=>?_|refine wr_i64_any fun r=>?_)|refine zG ?_|apply zA|(apply zI;intro h)|exact zT));(all_goals conv=>whnf)
 ·exact hK ⟨p.addr,c,b0,b1⟩ _ zp
 ·exact hK ⟨bBits .or .u32 p.addr 1,p.bits,(bb_u32 ..).1,(bb_u32 ..).2⟩ _ zp
 ·rename_i r
  exact hK ⟨p.addr,r,b0,b1⟩ _ zp
 ·exact hK ⟨bBits .xor .u32 p.addr r,p.bits,(bb_u32 ..).1,(bb_u32 ..).2⟩ _ zp
theorem cnPref(raw:List Int)(pos:Nat)(hp:pos<=raw.length)(hr:raw.length<=9223372036854775807){K:KT}
  (hK:∀(q:Pf) (pos':Nat),pos'<=raw.length->K (encP q) [tapeO raw pos']):ACall Tryz.prog 21 [.op 0 0] [tapeO raw pos] K:=by
 refine ofnPref rfl rfl ?_
 (repeat' ((conv=>whnf);first|(with_reducible first|refine nNext raw _ _ zo zp hr fun m1 p1 hm1 hp1=>?_|refine in_nat zo ?_|refine cnSub _ zo ?_|refine ix_intsB [32,31,24,25,8,1,0,16,30,23] 10 0 32 rfl rfl zd zo fun c c0 c1=>?_|refine cnAddr raw _ zp hr fun a p2 a0 a1 hp2=>?_|refine wr_u32_any fun r r0 r1=>?_)|refine zG ?_|apply zA|(apply zI;intro h)|exact zT));(all_goals conv=>whnf)
 ·exact hK _ _ zp
 ·exact hK ⟨r,c,r0,r1⟩ _ zp
 ·exact hK ⟨a,c,a0,a1⟩ _ zp
theorem eD(n:ByteArray)(c:Int)(r v:Bool)(s:ByteArray):∃a:Dv,AV.agg [.v (.string n),.v (.int .i64 c),.sb r,.sb v,.v (.string s)]=encD a:=⟨⟨n,c,r,v,s⟩,rfl⟩
theorem eL(a b c:Int):∃x:Lk,AV.agg [.v (.int .i64 a),.v (.int .i64 b),.v (.int .i64 c)]=encL x:=⟨⟨a,b,c⟩,rfl⟩
theorem eE(n:ByteArray)(d:Int)(z:ByteArray)(p:Pf)(b:Bool):∃a:Ed,AV.agg [.v (.string n),.v (.int .i64 d),.v (.string z),.v (.int .u32 p.addr),.v (.int .i64 p.bits),.sb b]=encE a:=⟨⟨n,d,z,p,b⟩,rfl⟩
theorem eP(p:Pf):∃a:Pf,AV.agg [.v (.int .u32 p.addr),.v (.int .i64 p.bits)]=encP a:=⟨p,rfl⟩
theorem all_map{α:Type}{f:α->AV}(l:List α):∀y,y∈l.map f->∃a,y=f a:=fun y hy=>by
 obtain⟨a,_,rfl⟩:=List.mem_map.1 hy;exact⟨a,rfl⟩
theorem all_app{Q:AV->Prop}{l:List AV}{x:AV}(h:∀y,y∈l->Q y)(hx:Q x):∀y,y∈l++[x]->Q y:=fun y hy=>by
 rcases List.mem_append.1 hy with h1|h1
 ·exact h y h1
 ·rw[List.mem_singleton.1 h1];exact hx
theorem all_set{Q:AV->Prop}{l:List AV}{i:Nat}{x:AV}(h:∀y,y∈l->Q y)(hx:Q x):∀y,y∈l.set i x->Q y:=fun y hy=>by
 rcases List.mem_or_eq_of_mem_set hy with h1|h1
 ·exact h y h1
 ·rw[h1];exact hx
theorem all_drop{Q:AV->Prop}{l:List AV}{i:Nat}(h:∀y,y∈l->Q y):∀y,y∈l.drop i->Q y:=fun y hy=>h y (List.mem_of_mem_drop hy)
theorem all_take{Q:AV->Prop}{l:List AV}{i:Nat}(h:∀y,y∈l->Q y):∀y,y∈l.take i->Q y:=fun y hy=>h y (List.mem_of_mem_take hy)
noncomputable abbrev smBox(x:Sm):Vm.Obj:=.box (celSm x)
def sm0:Sm:=⟨false,⟨#[]⟩,⟨#[]⟩,⟨#[]⟩,false,⟨#[]⟩,⟨#[]⟩,⟨#[]⟩,⟨#[]⟩,0⟩
noncomputable abbrev nilNt:Vm.Obj:=.box [.nils,.nils,.nils,.nils,.nils,.nils]
noncomputable abbrev itBox(x:It):Vm.Obj:=.box [.v (.int .i64 x.kind),.v (.string x.name),.v (.int .u32 x.pf.addr),.v (.int .i64 x.pf.bits),.v (.int .i64 x.proto),.v (.int .u32 x.ports.lo),.v (.int .u32 x.ports.hi)]
def SvcIt(y:It):Prop:=(y.kind=3/\y.proto=0/\y.ports.lo=0/\y.ports.hi=0)\/(y.proto=6\/y.proto=17)\/(y.proto=1/\y.ports.lo=8/\y.ports.hi=8)\/(y.proto=50/\y.ports.lo=0/\y.ports.hi=0)
structure GNt (i:Nt):Prop where
 few:Few i
 s2:i.svcs.length<=2
 sv:∀d,d∈i.svcs->∀y,y∈d.items->SvcIt y
structure LenNt (L:Nat) (i:Nt):Prop where
 g:i.grps.length<=L
 s:i.svcs.length<=L
 w:i.wins.length<=L
 t:i.sts.length<=L
 p:i.pubs.length<=L
 h:i.hids.length<=L
 gi:∀d,d∈i.grps->d.items.length<=L
 si:∀d,d∈i.svcs->d.items.length<=L
 wi:∀d,d∈i.wins->d.act.length<=L
def sumF{α:Type}(f:α->Nat)(l:List α):Nat:=(l.map f).sum
theorem sumF_succ{α:Type}{f:α->Nat}{l:List α}{k:Nat}{d:α}(h:l[k]? =some d):sumF f (l.take (k+1))=sumF f (l.take k)+f d:=by
 unfold sumF
 rw[List.take_add_one,h]
 simp
theorem sumF_le{α:Type}{f:α->Nat}{L:Nat}:∀{l:List α},(∀d,d∈l->f d<=L)->sumF f l<=l.length*L
 |[],_=>by simp[sumF]
 |d::l,h=>by
  have h1:=h d zx
  have h2:=sumF_le (l:=l) fun e he=>h e (by simp[he])
  unfold sumF at*
  simp only[List.map_cons,List.sum_cons,List.length_cons,Nat.succ_mul]
  omega
theorem sumF_take{α:Type}{f:α->Nat}{L n:Nat}{l:List α}(h:∀d,d∈l->f d<=L)(hn:l.length<=n)(k:Nat):sumF f (l.take k)<=n*L:=
 Nat.le_trans (sumF_le fun d hd=>h d (List.mem_of_mem_take hd)) (Nat.mul_le_mul_right _ (by rw[List.length_take];omega))
def sixN(i:Nt):Nat:=i.grps.length+i.svcs.length+i.wins.length+i.sts.length+i.pubs.length+i.hids.length
def hugeN(i:Nt):Bool:=decide (14<sixN i)||decide (4<i.sts.length)||decide (30<sixN i+sumF (fun d=>d.items.length) i.grps+sumF (fun d=>d.items.length) i.svcs+sumF (fun d=>d.act.length) i.wins)
theorem cHugN(i:Nt)(hl:LenNt 140737488351232 i){K:KT}(hK:K (.sb (hugeN i)) []):ACall Tryz.prog 36 [encNt i] [] K:=by
 refine ACall.bool (ofnHugN rfl rfl ?_)
 obtain⟨gs,ss,ws,ts,ps,hs'⟩:=i
 obtain⟨h1,h2,h3,h4,h5,h6,h7,h8,h9⟩:=hl
 simp only at h1 h2 h3 h4 h5 h6 h7 h8 h9
 generalize hsx:((gs.map encDf).length:Int)+((ss.map encDf).length:Int)+((ws.map encWn).length:Int)+((ts.map encSm).length:Int)+((ps.map encPb).length:Int)+((hs'.map encHn).length:Int)=sx at*
 have hsx':sx=(sixN ⟨gs,ss,ws,ts,ps,hs'⟩:Nat):=by rw[<-hsx];simp only[sixN,List.length_map];omega
 have hs6:sixN ⟨gs,ss,ws,ts,ps,hs'⟩=gs.length+ss.length+ws.length+ts.length+ps.length+hs'.length:=rfl
 unfold hugeN at hK
 simp only at hK
 generalize sixN ⟨gs,ss,ws,ts,ps,hs'⟩=sn at*
 (repeat' ((conv=>whnf);first|(with_reducible refine wr_i64 rfl (by(try simp only[List.length_map]);omega) (by(try simp only[List.length_map]);omega) ?_)|refine zG ?_|apply zA|(apply zI;intro h)|exact zT));(all_goals conv=>whnf)
 all_goals simp only[hsx]at*
 ·refine fin_t hK ?_;simp only[Bool.or_eq_true,decide_eq_true_eq];omega
 ·simp only[List.length_map]at*
  refine fin_t hK ?_;simp only[Bool.or_eq_true,decide_eq_true_eq];omega
 have e1:gs.length<=14:=by omega
 have e2:ss.length<=14:=by omega
 have e3:ws.length<=14:=by omega
 have t1:=fun k=>sumF_take h7 e1 k
 have t2:=fun k=>sumF_take h8 e2 k
 have t3:=fun k=>sumF_take h9 e3 k
 refine Lp.intro (Nat×Int) (fun g=>⟨1,[(0,boxNt ⟨gs,ss,ws,ts,ps,hs'⟩)],[(1,.op 0 0),(3,.v (.int .i64 g.2)),(4,.v (.int .i64 g.1))]⟩) (fun g=>g.1<=gs.length/\g.2=(sn+sumF (fun d=>d.items.length) (gs.take g.1):Nat)) (fun g=>gs.length-g.1) (0,sx) ⟨Nat.zero_le _,by simp[hsx',sumF]⟩ ?_ ?_
 ·(exact leA)
 rintro⟨k,n⟩ ⟨hk,hn⟩
 simp only at hk hn⊢
 have q1:=t1 k
 rcases Nat.lt_or_ge k gs.length with hkl|hkl
 ·obtain⟨d,hd⟩:=gex hkl
  have hs:=sumF_succ (f:=fun d=>d.items.length) hd
  have q2:=t1 (k+1)
  (repeat' ((conv=>whnf);first|(with_reducible first|refine in_map hkl ?_|refine ix_map hd ?_|refine wr_i64 rfl (by(try simp only[List.length_map]);omega) (by(try simp only[List.length_map]);omega) ?_)|refine zG ?_|apply zA|(apply zI;intro h)|exact zT));(all_goals conv=>whnf)
  refine⟨(k+1,n+((d.items.map encIt).length:Int)),⟨hkl,?_⟩,by simp only;omega,?_⟩
  ·simp only[List.length_map];rw[hs,hn];push_cast;omega
  ·simp only[Int.natCast_add,Int.natCast_one]
   (exact leA)
 rw[List.take_of_length_le hkl]at hn q1
 (repeat' ((conv=>whnf);first|refine zG ?_|apply zA|(apply zI;intro h)|exact zT));(all_goals conv=>whnf)
 refine Lp.intro (Nat×Int) (fun g=>⟨1,[(0,boxNt ⟨gs,ss,ws,ts,ps,hs'⟩)],[(1,.op 0 0),(3,.v (.int .i64 g.2)),(5,.v (.int .i64 g.1))]⟩) (fun g=>g.1<=ss.length/\g.2=(sn+sumF (fun d=>d.items.length) gs+sumF (fun d=>d.items.length) (ss.take g.1):Nat)) (fun g=>ss.length-g.1) (0,n) ⟨Nat.zero_le _,by simp[hn,sumF]⟩ ?_ ?_
 ·(exact leA)
 rintro⟨k2,n2⟩ ⟨hk2,hn2⟩
 simp only at hk2 hn2⊢
 have q2:=t2 k2
 rcases Nat.lt_or_ge k2 ss.length with hkl2|hkl2
 ·obtain⟨d,hd⟩:=gex hkl2
  have hs:=sumF_succ (f:=fun d=>d.items.length) hd
  have q3:=t2 (k2+1)
  (repeat' ((conv=>whnf);first|(with_reducible first|refine in_map hkl2 ?_|refine ix_map hd ?_|refine wr_i64 rfl (by(try simp only[List.length_map]);omega) (by(try simp only[List.length_map]);omega) ?_)|refine zG ?_|apply zA|(apply zI;intro h)|exact zT));(all_goals conv=>whnf)
  refine⟨(k2+1,n2+((d.items.map encIt).length:Int)),⟨hkl2,?_⟩,by simp only;omega,?_⟩
  ·simp only[List.length_map];rw[hs,hn2];push_cast;omega
  ·simp only[Int.natCast_add,Int.natCast_one]
   (exact leA)
 rw[List.take_of_length_le hkl2]at hn2 q2
 (repeat' ((conv=>whnf);first|refine zG ?_|apply zA|(apply zI;intro h)|exact zT));(all_goals conv=>whnf)
 refine Lp.intro (Nat×Int) (fun g=>⟨1,[(0,boxNt ⟨gs,ss,ws,ts,ps,hs'⟩)],[(1,.op 0 0),(3,.v (.int .i64 g.2)),(6,.v (.int .i64 g.1))]⟩) (fun g=>g.1<=ws.length/\g.2=(sn+sumF (fun d=>d.items.length) gs+sumF (fun d=>d.items.length) ss+sumF (fun d=>d.act.length) (ws.take g.1):Nat)) (fun g=>ws.length-g.1) (0,n2) ⟨Nat.zero_le _,by simp[hn2,sumF]⟩ ?_ ?_
 ·(exact leA)
 rintro⟨k3,n3⟩ ⟨hk3,hn3⟩
 simp only at hk3 hn3⊢
 have q3:=t3 k3
 rcases Nat.lt_or_ge k3 ws.length with hkl3|hkl3
 ·obtain⟨d,hd⟩:=gex hkl3
  have hs:=sumF_succ (f:=fun d=>d.act.length) hd
  have q4:=t3 (k3+1)
  (repeat' ((conv=>whnf);first|(with_reducible first|refine in_map hkl3 ?_|refine ix_map hd ?_|refine wr_i64 rfl (by(try simp only[List.length_map]);omega) (by(try simp only[List.length_map]);omega) ?_)|refine zG ?_|apply zA|(apply zI;intro h)|exact zT));(all_goals conv=>whnf)
  refine⟨(k3+1,n3+((d.act.map encR).length:Int)),⟨hkl3,?_⟩,by simp only;omega,?_⟩
  ·simp only[List.length_map];rw[hs,hn3];push_cast;omega
  ·simp only[Int.natCast_add,Int.natCast_one]
   (exact leA)
 rw[List.take_of_length_le hkl3]at hn3 q3
 (repeat' ((conv=>whnf);first|refine zG ?_|apply zA|(apply zI;intro h)|exact zT));(all_goals conv=>whnf)
 all_goals first
  |(refine fin_t hK ?_;simp only[Bool.or_eq_true,decide_eq_true_eq];omega)
  |(refine fin_f hK ?_;simp only[Bool.or_eq_false_iff,decide_eq_false_iff_not];simp only[List.length_map]at*;omega)
  |(refine fin_s hK ?_;rw[Bool.eq_iff_iff];simp only[Bool.or_eq_true,decide_eq_true_eq];simp only[List.length_map]at*;omega)
  |trace_state
open Go Go.Vm Go.ChangeShapes Go.WideShapes Go.ChangeAt Go.RowKit
theorem lst_of'{α:Type}(enc:α->AV)(p:α->Prop):∀{L:List AV},(∀y,y∈L->∃a,y=enc a/\p a)->∃l:List α,L=l.map enc/\∀a,a∈l->p a
 |[],_=>⟨[],rfl,fun a h=>by cases h⟩
 |y::L,h=>by
  obtain⟨a,rfl,pa⟩:=h y zx
  obtain⟨l,rfl,pl⟩:=lst_of' enc p (L:=L) fun z hz=>h z (by simp[hz])
  exact⟨a::l,rfl,fun b hb=>by
   rcases List.mem_cons.1 hb with rfl|hb
   ·exact pa
   ·exact pl b hb⟩
theorem tzL_df{d L:Nat}{y:AV}(h:TyL Tryz.prog L (d+5) 43 y):∃x:Df,y=encDf x/\x.items.length<=L:=by
 obtain⟨ys,hl,rfl,hf⟩:=h
 match ys,hl with
 |[a,b],_=>
  obtain⟨a,rfl,_⟩:=hf 0 _ a rfl rfl
  obtain⟨b,rfl,_,hL,hb⟩:=hf 1 _ b rfl rfl
  obtain⟨b,rfl⟩:=list_enc encIt fun y hy=>tz_it (d:=d) (hb y hy).ty
  exact⟨⟨a,b⟩,rfl,by simpa using hL⟩
theorem tzL_wn{d L:Nat}{y:AV}(h:TyL Tryz.prog L (d+4) 105 y):∃x:Wn,y=encWn x/\x.act.length<=L:=by
 obtain⟨ys,hl,rfl,hf⟩:=h
 match ys,hl with
 |[a,b],_=>
  obtain⟨a,rfl,_⟩:=hf 0 _ a rfl rfl
  obtain⟨b,rfl,_,hL,hb⟩:=hf 1 _ b rfl rfl
  obtain⟨b,rfl⟩:=list_enc encR fun y hy=>tz_rg (d:=d) (hb y hy).ty
  exact⟨⟨a,b⟩,rfl,by simpa using hL⟩
theorem tzL_nt{d L:Nat}{y:AV}(h:TyL Tryz.prog L (d+7) 39 y):∃i:Nt,y=encNt i/\LenNt L i:=by
 obtain⟨ys,hl,rfl,hf⟩:=h
 match ys,hl with
 |[a,b,c,e,f,g],_=>
  obtain⟨a,rfl,_,la,ha⟩:=hf 0 _ a rfl rfl
  obtain⟨b,rfl,_,lb,hb⟩:=hf 1 _ b rfl rfl
  obtain⟨c,rfl,_,lc,hc⟩:=hf 2 _ c rfl rfl
  obtain⟨e,rfl,_,le,he⟩:=hf 3 _ e rfl rfl
  obtain⟨f,rfl,_,lf,hf'⟩:=hf 4 _ f rfl rfl
  obtain⟨g,rfl,_,lg,hg⟩:=hf 5 _ g rfl rfl
  obtain⟨a,rfl,qa⟩:=lst_of' encDf _ fun y hy=>tzL_df (d:=d) (ha y hy)
  obtain⟨b,rfl,qb⟩:=lst_of' encDf _ fun y hy=>tzL_df (d:=d) (hb y hy)
  obtain⟨c,rfl,qc⟩:=lst_of' encWn _ fun y hy=>tzL_wn (d:=d+1) (hc y hy)
  obtain⟨e,rfl⟩:=list_enc encSm fun y hy=>tz_sm (d:=d+3) (he y hy).ty
  obtain⟨f,rfl⟩:=list_enc encPb fun y hy=>tz_pb (d:=d+3) (hf' y hy).ty
  obtain⟨g,rfl⟩:=list_enc encHn fun y hy=>tz_hn (d:=d+2) (hg y hy).ty
  simp only[List.length_map]at la lb lc le lf lg
  exact⟨⟨a,b,c,e,f,g⟩,rfl,⟨la,lb,lc,le,lf,lg,qa,qb,qc⟩⟩
noncomputable def gnCpD:Ctx:={N:=28,plan:=at1 5 (some (.one 0 true (.one 1 true (.one 2 true (.one 3 true (.one 4 true (.one 7 true (.one 8 true (.one 9 true (.one 10 true (.one 11 true (.wch 5 (ln [12,24,27,28,30,33]))))))))))))) (fun _=>none),out:=true}
noncomputable def bnCpD:Code:=bdy Tryz.f48
abbrev ofnCpD:=@ofC Tryz.prog gnCpD 48 Tryz.f48 bnCpD Tryz.func48 zk zk zk zk
noncomputable def gnCpI:Ctx:={N:=55,own:=at1 48 (true) (fun _=>false),plan:=at1 1 (some (.one 0 true (.one 1 true (.one 3 true (.wch 4 (.alt 2 (.alt 5 (ln [13,14,16]) (.alt 7 (ln [10,13,16]) (.stop))) (.alt 7 (ln [4,10,13,16]) (.stop)))))))) (at1 5 (some (.one 0 true (.one 2 true (.one 4 true (.one 9 true (.one 10 true (.one 11 true (.one 12 true (.one 13 true (.one 14 true (.wch 3 (.one 5 true (.one 6 true (.wch 7 (.alt 1 (ln [16,30,33,34,36,39,40]) (.alt 8 (.alt 1 (ln [30,33,34,36,39,40]) (.alt 15 (ln [3,33,34,36,39,40]) (.stop))) (.stop))))))))))))))))) (fun _=>none)),hints:=at1 2 ([.freeze 1]) (at1 6 ([.flatB 3 2,.virtB 3 1 2,.virtB 3 2 2]) (fun _=>[])),out:=true}
open Classical in
noncomputable def canO(f:Int->Bool):List Rg:=if h:∃l,Canon l/\∀v,has l v=f v then h.choose else []
theorem canO_eq{f:Int->Bool}{l:List Rg}(hc:Canon l)(hf:∀v,has l v=f v):canO f=l:=by
 have h:∃l,Canon l/\∀v,has l v=f v:=⟨l,hc,hf⟩
 rw[canO,dif_pos h]
 obtain⟨h1,h2⟩:=h.choose_spec
 exact canon_ext h1 hc fun v=>by rw[h2,hf]
theorem canO_spec{f:Int->Bool}(h:∃l,Canon l/\∀v,has l v=f v):Canon (canO f)/\∀v,has (canO f) v=f v:=by
 obtain⟨l,h1,h2⟩:=h
 rw[canO_eq h1 h2]
 exact⟨h1,h2⟩
theorem sub_ex(a b:List Rg):∃l,Canon l/\∀v,has l v=(has a v&& !has b v):=by
 have inv:=starts_inv (a++b) (top:=4294967295) zd
 obtain⟨r0,hr0⟩:=inv.zero
 have hseg:∀s,s∈segs 4294967295 (starts (a++b) 4294967295)->∀v,s.1<=v->v<=s.2->(fun v=>has a v&& !has b v) v=(fun v=>has a v&& !has b v) s.1:=by
  intro s hs v h1 h2
  simp only
  rw[has_const zd (fun r hr=>List.mem_append.2 (.inl hr)) hs h1 h2,has_const zd (fun r hr=>List.mem_append.2 (.inr hr)) hs h1 h2]
 have hsort:=inv.sorted
 have hrange:=inv.range
 rw[hr0]at hseg hsort hrange
 have hk:=fold_inv (f:=fun v=>has a v&& !has b v) (top:=4294967295) zd r0 0 [] ⟨⟨fun r hr=>by simp at hr,by simp⟩,fun v=>by
  rw[Bool.eq_iff_iff]
  simp only[has,List.any_nil,Bool.false_eq_true,Bool.and_eq_true,decide_eq_true_eq,false_iff]
  omega,fun r hr=>by simp at hr⟩ hsort hrange hseg
 refine⟨_,hk.canon,fun v=>?_⟩
 rw[hk.mem]
 cases h:(has a v&& !has b v)with
 |false=>simp
 |true=>
  simp only[Bool.and_eq_true]at h
  obtain⟨r,hr,h1,h2⟩:=has_iff.1 h.1
  have:=r.l0;have:=r.h1
  simp only[Bool.and_true,Bool.and_eq_true,decide_eq_true_eq]
  omega
def itsN(l:List Df):Nat:=(l.map fun d=>d.items.length).sum
theorem canon_len{c rs:List Rg}(hc:Canon c)(h:∀v,has c v=has rs v):c.length<=rs.length:=by
 have hn:(c.map fun r=>r.lo).Nodup:=by
  unfold List.Nodup
  rw[List.pairwise_map]
  refine List.Pairwise.imp_of_mem ?_ hc.2
  intro a b ha _ hab e
  have:=hc.1 a ha;omega
 have:=nodup_sub hn (m:=rs.map fun r=>r.lo) fun x hx=>by
  obtain⟨r,hr,rfl⟩:=List.mem_map.1 hx
  have hle:=hc.1 r hr
  have h1:has rs r.lo=true:=by rw[<-h];exact has_iff.2 ⟨r,hr,Int.le_refl _,hle⟩
  obtain⟨s,hs,s1,s2⟩:=has_iff.1 h1
  refine List.mem_map.2 ⟨s,hs,?_⟩
  rcases Int.lt_or_le s.lo r.lo with hlt|hge
  ·exfalso
   have h2:has c (r.lo-1)=true:=by rw[h];exact has_iff.2 ⟨s,hs,by omega,by omega⟩
   obtain⟨q,hq,q1,q2⟩:=has_iff.1 h2
   obtain⟨i,hi,rfl⟩:=List.mem_iff_getElem.1 hr
   obtain⟨j,hj,rfl⟩:=List.mem_iff_getElem.1 hq
   have hp:=List.pairwise_iff_getElem.1 hc.2
   rcases Nat.lt_trichotomy i j with hij|hij|hij
   ·have:=hp i j hi hj hij;omega
   ·subst hij;omega
   ·have:=hp j i hj hi hij;omega
  ·omega
 simpa using this
theorem canO_len(rs:List Rg):(canO (has rs)).length<=rs.length:=by
 obtain⟨c,hc,hh⟩:=sub_ex rs []
 have hh':∀v,has c v=has rs v:=fun v=>by rw[hh,has_nil];simp
 rw[canO_eq hc hh']
 exact canon_len hc hh'
def prB(p:Int)(r:Rg):Bool:=if p=6\/p=17 then decide (r.lo<=r.hi/\r.hi<=65535)else if p=1 then decide (r.lo=8/\r.hi=8)else decide (0<=p/\p<=255/\r.lo=0/\r.hi=0)
def itN(x:It):Bool:=decide (x.pf.addr=0/\x.pf.bits=0/\x.proto=0/\x.ports.lo=0/\x.ports.hi=0)
def itP(x:It):Bool:=sEq x.name ⟨#[]⟩&&decide (x.proto=0/\x.ports.lo=0/\x.ports.hi=0)
def itS(x:It):Bool:=sEq x.name ⟨#[]⟩&&decide (x.pf.addr=0/\x.pf.bits=0)
noncomputable def itB(x:It)(g:Bool):Bool:=
 if x.kind=3 then nameB x.name&&itN x
 else if x.kind=1 then g&&(nameB x.name&&itN x)
 else if x.kind=2 then g&&(decide x.pf.okP&&itP x)
 else if x.kind=4 then !g&&(prB x.proto x.ports&&itS x)else false
def dfIx(l:List Df)(s:ByteArray):Int:=firstIx (fun d=>sEq d.name s) l
structure DfOk (l:List Df) (g:Bool) (i:Nat) (d:Df):Prop where
 name:nameB d.name=true
 first:dfIx l d.name=i
 lo:1<=d.items.length
 hi:d.items.length<=16
 all:∀x,x∈d.items->itB x g=true
structure DfsOk (l:List Df) (g:Bool):Prop where
 len:l.length<=32
 all:∀(i:Nat) d,l[i]? =some d->DfOk l g i d
noncomputable def dayW(l:List Rg)(d:Nat):List Rg:=canO fun v=>has l v&&(decide (1440*(d:Int)<=v)&&decide (v<=1440*(d:Int)+1439))
noncomputable def cntW(l:List Rg)(k:Nat):Nat:=((List.range k).map fun d=>(dayW l d).length).sum
theorem cntW_succ(l:List Rg)(k:Nat):cntW l (k+1)=cntW l k+(dayW l k).length:=by
 rw[cntW,List.range_succ,List.map_append,List.sum_append,<-cntW];simp
structure WinOk (l:List Rg):Prop where
 can:Canon l
 top:∀r,r∈l->r.hi<=10079
 few:cntW l 7<=16
def wnIx(l:List Wn)(s:ByteArray):Int:=firstIx (fun d=>sEq d.name s) l
structure WnOk (l:List Wn) (i:Nat) (w:Wn):Prop where
 name:nameB w.name=true
 first:wnIx l w.name=i
 act:WinOk w.act
noncomputable def optB(s:ByteArray):Bool:=sEq s ⟨#[]⟩||nameB s
noncomputable def smB(x:Sm):Bool:=
 (optB x.frm&&(optB x.to&&(optB x.svc&&(optB x.cls&&(optB x.dur&&(optB x.exF&&optB x.exT))))))&&
 ((x.exc||(sEq x.exF ⟨#[]⟩&&sEq x.exT ⟨#[]⟩))&&((x.permit||sEq x.cls ⟨#[]⟩)&&(decide (0<=x.pri)&&decide (x.pri<=1000))))
def ptB(n:Int):Bool:=decide (0<=n)&&decide (n<=65535)
noncomputable def pbB(x:Pb):Bool:=(decide (x.proto=6)||decide (x.proto=17))&&(ptB x.port&&(ptB x.rport&&nameB x.edge))
noncomputable def hnB(x:Hn):Bool:=nameB x.grp&&(nameB x.edge&&decide (1024<=x.ports.lo/\x.ports.lo<=x.ports.hi/\x.ports.hi<=65535))
structure NtOk (i:Nt):Prop where
 g:DfsOk i.grps true
 s:DfsOk i.svcs false
 wl:i.wins.length<=32
 tl:i.sts.length<=64
 pl:i.pubs.length<=16
 hl:i.hids.length<=8
 w:∀(k:Nat) x,i.wins[k]? =some x->WnOk i.wins k x
 t:∀x,x∈i.sts->smB x=true
 p:∀x,x∈i.pubs->pbB x=true
 h:∀x,x∈i.hids->hnB x=true
open Classical in
noncomputable def dfsB(l:List Df)(g:Bool):Bool:=decide (DfsOk l g)
theorem dfsB_iff{l:List Df}{g:Bool}:dfsB l g=true↔DfsOk l g:=by simp[dfsB]
theorem dfsB_true{l:List Df}{g:Bool}(h:DfsOk l g):dfsB l g=true:=dfsB_iff.2 h
theorem dfsB_false{l:List Df}{g:Bool}(h:¬DfsOk l g):dfsB l g=false:=by rw[Bool.eq_false_iff,ne_eq,dfsB_iff];exact h
open Classical in
noncomputable def winB(l:List Rg):Bool:=decide (WinOk l)
theorem winB_iff{l:List Rg}:winB l=true↔WinOk l:=by simp[winB]
open Classical in
noncomputable def ntB(i:Nt):Bool:=decide (NtOk i)
theorem ntB_iff{i:Nt}:ntB i=true↔NtOk i:=by simp[ntB]
theorem ntB_true{i:Nt}(h:NtOk i):ntB i=true:=ntB_iff.2 h
theorem ntB_false{i:Nt}(h:¬NtOk i):ntB i=false:=by rw[Bool.eq_false_iff,ne_eq,ntB_iff];exact h
theorem dayW_eq{l out:List Rg}{d:Nat}(hc:Canon out)(hh:∀v,has out v=(has l v&&(decide (1440*(d:Int)<=v)&&decide (v<=1440*(d:Int)+1439)))):dayW l d=out:=canO_eq hc hh
theorem le_sum_nat{α:Type}{f:α->Nat}{l:List α}{x:α}(h:x∈l):f x<=(l.map f).sum:=by
 induction l with
 |nil=>simp at h
 |cons e l ih=>
  simp only[List.map_cons,List.sum_cons]
  rcases List.mem_cons.1 h with h|h
  ·subst h;omega
  ·have:=ih h;omega
def setF(p:Nat->Int)(f:Nat)(v:Int):Nat->Int:=fun g=>if g=f then v else p g
end Go.Proofs.YtahhamfngafmcaaGreatDoor
