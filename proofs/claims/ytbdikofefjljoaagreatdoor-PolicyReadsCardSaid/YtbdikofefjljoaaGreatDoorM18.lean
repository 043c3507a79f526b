/- The generator: prefixes; prefixes and topologies with one property changed: some prefix, some small topology. -/
import Derived.Test.YtbdikofefjljoaaGreatDoorM17
set_option linter.unusedVariables false
set_option linter.unusedSimpArgs false
set_option maxRecDepth 100000
set_option maxHeartbeats 4000000
namespace Go.Proofs.YtbdikofefjljoaaGreatDoor
open Go Go.Vm
theorem bb_u32(op:BinOp)(a b:Int):0<=bBits op .u32 a b/\bBits op .u32 a b<=4294967295:=by
 have h:∀e:Int,0<=IntKind.u32.wrap e/\IntKind.u32.wrap e<=4294967295:=fun e=>by
  simp only[IntKind.wrap,IntKind.signed,IntKind.bits];simp;omega
 unfold bBits
 simp only
 split<;>exact h _
theorem wr_i64_any{e:Int}{K:Int->Prop}(h:∀r,K r):Wr .i64 e K:=wr_any h
theorem ix_intsB{xs:List AV}{i:Nat}{K:AV->Prop}(L:List Int)(n:Nat)(lo hi:Int)(h:xs=L.map fun c=>.v (.int .i64 c))(hn:L.length=n)(hb:(L.all fun c=>decide (lo<=c)&&decide (c<=hi))=true)(hi':i<n)(hk:∀c,lo<=c->c<=hi->K (.v (.int .i64 c))):Ix xs i K:=
 ix_ints L n h hn hi' fun c hc=>by
  have:=bX.1 hb c hc
  simp only[aI,aK]at this
  exact hk c this.1 this.2
theorem cnSpP(raw:List Int)(pos:Nat)(p:Pf)(hp:pos<=raw.length)(hr:raw.length<=9223372036854775807){K:KT}
  (hK:∀(q:Pf) (pos':Nat),pos'<=raw.length->K (encP q) [tapeO raw pos']):ACall Tryz.prog 89 [.op 0 0,encP p] [tapeO raw pos] K:=by
 have b0:=p.a0;have b1:=p.a1
 refine ofnSpP rfl rfl ?_
 (repeat' ((conv=>whnf);first|(with_reducible first|refine nNext raw _ _ zo zp hr fun m1 p1 hm1 hp1=>?_|refine in_nat zo ?_|refine ix_ints [-1,33,0,32] 4 rfl rfl zo fun c hc=>?_|refine wr_u32_any fun r r0 r1=>?_|refine wr_i64_any fun r=>?_)|refine zG ?_|apply zA|(apply zI;intro h)|exact zT));(all_goals conv=>whnf)
 ·exact hK ⟨p.addr,c,b0,b1⟩ _ zp
 ·exact hK ⟨bBits .or .u32 p.addr 1,p.bits,(bb_u32 ..).1,(bb_u32 ..).2⟩ _ zp
 ·rename_i r
  exact hK ⟨p.addr,r,b0,b1⟩ _ zp
 ·exact hK ⟨bBits .xor .u32 p.addr r,p.bits,(bb_u32 ..).1,(bb_u32 ..).2⟩ _ zp
theorem cnPref(raw:List Int)(pos:Nat)(hp:pos<=raw.length)(hr:raw.length<=9223372036854775807){K:KT}
  (hK:∀(q:Pf) (pos':Nat),pos'<=raw.length->K (encP q) [tapeO raw pos']):ACall Tryz.prog 90 [.op 0 0] [tapeO raw pos] K:=by
 refine ofnPref rfl rfl ?_
 (repeat' ((conv=>whnf);first|(with_reducible first|refine nNext raw _ _ zo zp hr fun m1 p1 hm1 hp1=>?_|refine in_nat zo ?_|refine cnSub _ zo ?_|refine ix_intsB [32,31,24,25,8,1,0,16,30,23] 10 0 32 rfl rfl zd zo fun c c0 c1=>?_|refine cnAddr raw _ zp hr fun a p2 a0 a1 hp2=>?_|refine wr_u32_any fun r r0 r1=>?_)|refine zG ?_|apply zA|(apply zI;intro h)|exact zT));(all_goals conv=>whnf)
 ·exact hK _ _ zp
 ·exact hK ⟨r,c,r0,r1⟩ _ zp
 ·exact hK ⟨a,c,a0,a1⟩ _ zp
theorem tp_of{D L E P:List AV}{tol:Int}(hD:∀y,y∈D->∃a:Dv,y=encD a)(hL:∀y,y∈L->∃a:Lk,y=encL a)(hE:∀y,y∈E->∃a:Ed,y=encE a)(hP:∀y,y∈P->∃a:Pf,y=encP a):
  ∃t:Tp,AV.agg [.lst D,.lst L,.lst E,.lst P,.v (.int .i64 tol)]=encT t/\t.edges.map encE=E:=by
 obtain⟨d,rfl⟩:=list_enc encD hD
 obtain⟨l,rfl⟩:=list_enc encL hL
 obtain⟨e,rfl⟩:=list_enc encE hE
 obtain⟨p,rfl⟩:=list_enc encP hP
 exact⟨⟨d,l,e,p,tol⟩,rfl,rfl⟩
theorem eD(n:ByteArray)(c:Int)(r v:Bool)(s:ByteArray):∃a:Dv,AV.agg [.v (.string n),.v (.int .i64 c),.sb r,.sb v,.v (.string s)]=encD a:=⟨⟨n,c,r,v,s⟩,rfl⟩
theorem eL(a b c:Int):∃x:Lk,AV.agg [.v (.int .i64 a),.v (.int .i64 b),.v (.int .i64 c)]=encL x:=⟨⟨a,b,c⟩,rfl⟩
theorem eE(n:ByteArray)(d:Int)(z:ByteArray)(p:Pf)(b:Bool):∃a:Ed,AV.agg [.v (.string n),.v (.int .i64 d),.v (.string z),.v (.int .u32 p.addr),.v (.int .i64 p.bits),.sb b]=encE a:=⟨⟨n,d,z,p,b⟩,rfl⟩
theorem eP(p:Pf):∃a:Pf,AV.agg [.v (.int .u32 p.addr),.v (.int .i64 p.bits)]=encP a:=⟨p,rfl⟩
theorem all_map{α:Type}{f:α->AV}(l:List α):∀y,y∈l.map f->∃a,y=f a:=fun y hy=>by
 obtain⟨a,_,rfl⟩:=bU.1 hy;exact⟨a,rfl⟩
theorem all_app{Q:AV->Prop}{l:List AV}{x:AV}(h:∀y,y∈l->Q y)(hx:Q x):∀y,y∈l++[x]->Q y:=fun y hy=>by
 rcases aS.1 hy with h1|h1
 ·exact h y h1
 ·rw[aR.1 h1];exact hx
theorem all_set{Q:AV->Prop}{l:List AV}{i:Nat}{x:AV}(h:∀y,y∈l->Q y)(hx:Q x):∀y,y∈l.set i x->Q y:=fun y hy=>by
 rcases List.mem_or_eq_of_mem_set hy with h1|h1
 ·exact h y h1
 ·rw[h1];exact hx
theorem all_drop{Q:AV->Prop}{l:List AV}{i:Nat}(h:∀y,y∈l->Q y):∀y,y∈l.drop i->Q y:=fun y hy=>h y (dX hy)
theorem all_take{Q:AV->Prop}{l:List AV}{i:Nat}(h:∀y,y∈l->Q y):∀y,y∈l.take i->Q y:=fun y hy=>h y (cG hy)
def SpE(t u:Tp):Prop:=u.edges.length<=t.edges.length\/∃e,t.edges[0]? =some e/\u.edges=t.edges++[e]
def SpL(t:Tp)(E:List AV):Prop:=E.length<=t.edges.length\/∃e,t.edges[0]? =some e/\E=t.edges.map encE++[encE e]
theorem encE_inj{x y:Ed}(h:encE x=encE y):x=y:=by
 obtain⟨n,d,z,⟨a,b,_,_⟩,pl⟩:=x
 obtain⟨n',d',z',⟨a',b',_,_⟩,pl'⟩:=y
 simp only[encE,AV.agg.injEq,List.cons.injEq,AV.v.injEq,Value.string.injEq,Value.int.injEq,AV.sb.injEq,true_and,and_true]at h
 obtain⟨rfl,rfl,rfl,rfl,rfl,rfl⟩:=h
 rfl
theorem map_encE_inj:∀{l m:List Ed},l.map encE=m.map encE->l=m
 |[],[],_=>rfl
 |a::l,b::m,h=>by
  rw[aU,aU,List.cons.injEq]at h
  rw[encE_inj h.1,map_encE_inj h.2]
 |[],_::_,h=>by cases h
 |_::_,[],h=>by cases h
theorem spL_of{t u:Tp}(h:SpL t (u.edges.map encE)):SpE t u:=by
 rcases h with h|⟨e,he,h⟩
 ·exact .inl (by rwa[aA]at h)
 ·exact .inr ⟨e,he,map_encE_inj (by rw[h,aQ];rfl)⟩
theorem cnSpTE(raw:List Int)(pos:Nat)(t:Tp)(ht:t.devs.length<100/\t.links.length<100/\t.edges.length<100/\t.pools.length<100)(hp:pos<=raw.length)(hr:raw.length<=9223372036854775807){K:KT}
  (hK:∀(u:Tp) (pos':Nat),SpE t u->pos'<=raw.length->K (encT u) [tapeO raw pos']):ACall Tryz.prog 29 [.op 0 0,encT t] [tapeO raw pos] K:=by
 obtain⟨l1,l2,l3,l4⟩:=ht
 have hE:∀(D L E P:List AV) (tol:Int) (p':Nat),(∀y,y∈D->∃a:Dv,y=encD a)->(∀y,y∈L->∃a:Lk,y=encL a)->(∀y,y∈E->∃a:Ed,y=encE a)->(∀y,y∈P->∃a:Pf,y=encP a)->SpL t E->p'<=raw.length->K (.agg [.lst D,.lst L,.lst E,.lst P,.v (.int .i64 tol)]) [tapeO raw p']:=fun D L E P tol p' h1 h2 h3 h4 h5 hp'=>by
  obtain⟨u,hu,he⟩:=tp_of (tol:=tol) h1 h2 h3 h4
  rw[hu];exact hK u p' (spL_of (he▸h5)) hp'
 have hK':∀(D:List Dv) (L:List Lk) (E:List Ed) (P:List Pf) (tol:Int) (p':Nat),E.length<=t.edges.length->p'<=raw.length->K (.agg [.lst (D.map encD),.lst (L.map encL),.lst (E.map encE),.lst (P.map encP),.v (.int .i64 tol)]) [tapeO raw p']:=fun D L E P tol p' he hp'=>hK ⟨D,L,E,P,tol⟩ p' (.inl he) hp'
 refine ofnSpT rfl rfl ?_
 (repeat' ((conv=>whnf);first|(with_reducible first|refine cnCopy t zo ?_|refine nNext raw _ _ zo zp hr fun m1 p1 hm1 hp1=>?_|refine in_nat zo ?_|refine cnSpP raw _ r.pf zp hr fun q p2 hp2=>?_|refine cnPref raw _ zp hr fun q p2 hp2=>?_|refine ix_strs [⟨#[114,49]⟩,⟨#[97,110,121]⟩,⟨#[82]⟩,⟨#[122,122]⟩] 4 rfl rfl zo fun s hs=>?_|refine ix_strs [⟨#[97,110,121]⟩,⟨#[105,112,115]⟩,⟨#[90]⟩,⟨#[97,32,98]⟩] 4 rfl rfl zo fun s hs=>?_|refine ix_strs [⟨#[]⟩,⟨#[97,110,121]⟩,⟨#[100,109,122]⟩] 3 rfl rfl zo fun s hs=>?_|refine ix_ints [0,1001,-1,7] 4 rfl rfl zo fun c hc=>?_|refine ix_ints [3,-1,2] 3 rfl rfl zo fun c hc=>?_|refine ix_ints [4097,-1,7] 3 rfl rfl zo fun c hc=>?_|refine In.intro 0 rfl zo ?_|refine In.intro (t.edges.length-1) zo zo ?_|refine ix_any zo fun r hx=>?_|refine ix_set (by rw[aA];omega) ?_|refine Sb.intro 1 t.devs.length rfl rfl zo zo ?_|refine Sb.intro 1 t.edges.length rfl rfl zo zo ?_|refine sl_map zo ?_)|refine zG ?_|apply zA|(apply zI;intro h)|exact zT));(all_goals conv=>whnf)
 all_goals first
  |exact hK' t.devs t.links t.edges t.pools _ _ (aM _) zp
  |(refine hE _ _ _ _ _ _ ?_ ?_ ?_ ?_ (by first|(refine .inl ?_;simp;done)|(refine .inr ⟨_,by assumption,?_⟩;rw[cD,cU])) zp<;>(repeat' first|exact all_map _|refine all_app ?_ ?_|refine all_set ?_ ?_|refine all_drop ?_|refine all_take ?_)<;>
    first|exact eD _ _ _ _ _|exact eL _ _ _|exact eE _ _ _ _ _|exact eP _)
noncomputable abbrev smBox(x:Sm):Vm.Obj:=.box (celSm x)
def sm0:Sm:=⟨false,⟨#[]⟩,⟨#[]⟩,⟨#[]⟩,false,⟨#[]⟩,⟨#[]⟩,⟨#[]⟩,⟨#[]⟩,0⟩
noncomputable abbrev nilNt:Vm.Obj:=.box [.nils,.nils,.nils,.nils,.nils,.nils]
noncomputable abbrev itBox(x:It):Vm.Obj:=.box [.v (.int .i64 x.kind),.v (.string x.name),.v (.int .u32 x.pf.addr),.v (.int .i64 x.pf.bits),.v (.int .i64 x.proto),.v (.int .u32 x.ports.lo),.v (.int .u32 x.ports.hi)]
def SvcIt(y:It):Prop:=(y.kind=3/\y.proto=0/\y.ports.lo=0/\y.ports.hi=0)\/(y.proto=6\/y.proto=17)\/(y.proto=1/\y.ports.lo=8/\y.ports.hi=8)\/(y.proto=50/\y.ports.lo=0/\y.ports.hi=0)
structure GNt (i:Nt):Prop where
 few:Few i
 s2:i.svcs.length<=2
 sv:∀d,d∈i.svcs->∀y,y∈d.items->SvcIt y
inductive Good (l:List Df) (ok:It->Bool):ByteArray->Prop
 |mk {nm:ByteArray} {n:Nat} {d:Df} (h1:findD l nm=some n) (h2:l[n]? =some d) (h3:∀x,x∈d.items->x.kind≠3->ok x=true) (h4:∀x,x∈d.items->x.kind=3->Good l ok x.name):Good l ok nm
inductive Need (l:List Df):Nat->Nat->Prop
 |one {n m:Nat} {d:Df} {x:It} (h1:l[n]? =some d) (h2:x∈d.items) (h3:x.kind=3) (h4:findD l x.name=some m):Need l n m
 |more {n m k:Nat} (h1:Need l n m) (h2:Need l m k):Need l n k
theorem Need.first{l:List Df}{n k:Nat}(h:Need l n k):∃d x m,l[n]? =some d/\x∈d.items/\x.kind=3/\findD l x.name=some m/\(m=k\/Need l m k):=by
 induction h with
 |one h1 h2 h3 h4=>exact⟨_,_,_,h1,h2,h3,h4,.inl rfl⟩
 |more h1 h2 ih1 ih2=>
  obtain⟨d,x,m,g1,g2,g3,g4,g5⟩:=ih1
  refine⟨d,x,m,g1,g2,g3,g4,.inr ?_⟩
  rcases g5 with rfl|g5
  ·exact h2
  ·exact .more g5 h2
section
variable {S U:Type} (v:It->S->Int×S) (mem:S->U->Prop) (vis:It->U->Prop) (ok:It->Bool)
structure Vis:Prop where
 add:∀x s,(v x s).1=0->∀u,mem (v x s).2 u↔(mem s u\/vis x u)
 ok:∀x s,(v x s).1=0↔ok x=true
structure Closed (l:List Df) (d:List Nat) (s:S):Prop where
 it:∀n,n∈d->∀df,l[n]? =some df->∀x,x∈df.items->x.kind≠3->∀u,vis x u->mem s u
 nm:∀n,n∈d->∀df,l[n]? =some df->∀x,x∈df.items->x.kind=3->∃m,m∈d/\findD l x.name=some m
 good:∀n,n∈d->∀nm,findD l nm=some n->Good l ok nm
variable (hv:Vis v mem vis ok)
include hv
end
section
variable {I:List (Int×Rg)} {X:List Bx}
theorem vals(p:Nat->Int)(e:Int):setF p 2 e 2=e/\setF p 2 e 3=p 3/\setF p 2 e 4=p 4:=⟨rfl,rfl,rfl⟩
end
end Go.Proofs.YtbdikofefjljoaaGreatDoor
