/- Lemmas. -/
import Derived.Test.YtgicddadddhonaaGreatDoorProg
import Derived.Test.YtgicddadddhonaaGreatDoorM22
set_option linter.unusedVariables false
set_option linter.unusedSimpArgs false
set_option maxRecDepth 100000
set_option maxHeartbeats 4000000
noncomputable section
namespace Go.Proofs.YtgicddadddhonaaGreatDoor
open Go Go.Vm
structure Few (i:Nt):Prop where
 sml:Sml i
 g3:i.grps.length<=3
 s3:i.svcs.length<=3
 gi:∀d,d∈i.grps->d.items.length<=2
 si:∀d,d∈i.svcs->d.items.length<=2
def tp0:Tp:=⟨[],[],[],[],0⟩
theorem aAx(b:List Rg):lJ [] b=[]:=rfl
theorem Yc(a:List Rg)(r:Rg)(b:List Rg):lJ (a++[r]) b=lJ a b++b.map fun s=>rJ r s:=by simp[lJ]
theorem Ih(b:List Rg):∀a:List Rg,(lJ a b).length=a.length*b.length
 |[]=>by simp[lJ]
 |r::a=>by
  have:=Ih b a;simp only[lJ,cS,aC,aA,aB,Nat.succ_mul]at*;omega
abbrev aRK(x:Sm):List AV:=[.sb x.permit,.v (.string x.frm),.v (.string x.to),.v (.string x.svc),.sb x.exc,.v (.string x.exF),.v (.string x.exT),.v (.string x.cls),.v (.string x.dur),.v (.int .i64 x.pri)]
def aTU:Ctx:={N:=36,np:=1,own:=oz [14],plan:=p1 2 (lz [1,5] (.wch 1 (ln [6,9,11,13,15,16]))) pn}
abbrev aPQ:=ofD aTU Tryz.func72
def aNo:Ctx:={N:=34,np:=1,own:=oz [14,33]}
abbrev Xf:=ofD aNo Tryz.func73
def A6:Sched:=.wch 6 (ln [16,19,21,22,24,27,28])
def B4:Sched:=lz [1,7] (.wch 1 (.alt 2 (ln [8,11,13,15,17,18]) (.alt 4 (ln [4,11,13,15,17,18]) Ab)))
def Am:Sched:=lp 6 [12,14,17,18]
def aTV:Ctx:={N:=206,np:=1,own:=oz [14,72,73,71],plan:=p1 6 (lz [1,7,15] (.wch 1 (.alt 2 (lz [8,11] A6) (.alt 4 (.alt 2 (lz [11] A6) (.alt 8 (ln [19,4,11,13,21,22,24,27,28]) Ab)) Ab)))) (p1 9 B4 (p1 11 (lz [1,5,11,15] (.wch 1 (ln [6,9,12,16,19,20,22,25,26]))) (p1 14 B4 (p1 17 (lz [1,5] (.wch 1 (ln [6,9,11,13,14]))) (p1 20 (lz [1,5,13,15,17,19,21,23,25,27,29,31] (.wch 1 (.wch 3 (ln [9,11,32,35,37,38])))) (p1 23 (lp 10 [20]) (p1 26 Am (p1 29 B4 (p1 31 (lz [1,5] (.wch 1 (ln [6,8,10,13,14]))) (p1 39 B4 pn))))))))))}
abbrev aPR:=ofD aTV Tryz.func23
theorem Nm(op:BinOp)(a b:Int):0<=oM op .u32 a b/\oM op .u32 a b<=4294967295:=by
 have h:∀e:Int,0<=IntKind.u32.wrap e/\IntKind.u32.wrap e<=4294967295:=fun e=>by
  simp only[IntKind.wrap,IntKind.signed,IntKind.bits];simp;omega
 unfold oM;simp only;split<;>exact h _
theorem kY{e:Int}{K:Int->Prop}(h:∀r,K r):Wr .i64 e K:=xE h
theorem Ju{xs:List AV}{i:Nat}{K:AV->Prop}(L:List Int)(n:Nat)(lo hi:Int)(h:xs=L.map fun c=>.v (.int .i64 c))(hn:L.length=n)(hb:(L.all fun c=>decide (lo<=c)&&decide (c<=hi))=true)(hi':i<n)(hk:∀c,lo<=c->c<=hi->K (.v (.int .i64 c))):Ix xs i K:=
 oK L n h hn hi' fun c hc=>by
  have:=bT.1 hb c hc;simp only[aJ,aL]at this;exact hk c this.1 this.2
theorem aRX(raw:List Int)(pos:Nat)(p:Pf)(hp:pos<=raw.length)(hr:raw.length<=9223372036854775807){K:KT}
  (hK:∀(q:Pf) (pos':Nat),pos'<=raw.length->K (lN q) [iO raw pos']):AC 72 [.op 0 0,lN p] [iO raw pos] K:=by
 have b0:=p.a0;have b1:=p.a1;refine aPQ rfl rfl ?_;(repeat' ((conv=>whnf);first|(with_reducible first|refine jI raw _ _ zo zp hr fun m1 p1 hm1 hp1=>?_|refine iJ zo ?_|refine oK [-1,33,0,32] 4 rfl rfl zo fun c hc=>?_|refine jD fun r r0 r1=>?_|refine kY fun r=>?_)|refine zG ?_|apply zA|intro h|exact zT));all_goals conv=>whnf
 ·exact hK ⟨p.addr,c,b0,b1⟩ _ zp
 ·exact hK ⟨oM .or .u32 p.addr 1,p.bits,(Nm ..).1,(Nm ..).2⟩ _ zp
 ·rename_i r;exact hK ⟨p.addr,r,b0,b1⟩ _ zp
 ·exact hK ⟨oM .xor .u32 p.addr r,p.bits,(Nm ..).1,(Nm ..).2⟩ _ zp
theorem aLA(raw:List Int)(pos:Nat)(hp:pos<=raw.length)(hr:raw.length<=9223372036854775807){K:KT}
  (hK:∀(q:Pf) (pos':Nat),pos'<=raw.length->K (lN q) [iO raw pos']):AC 73 [.op 0 0] [iO raw pos] K:=by
 refine Xf rfl rfl ?_;(repeat' ((conv=>whnf);first|(with_reducible first|refine jI raw _ _ zo zp hr fun m1 p1 hm1 hp1=>?_|refine iJ zo ?_|refine Gk _ zo ?_|refine Ju [32,31,24,25,8,1,0,16,30,23] 10 0 32 rfl rfl zd zo fun c c0 c1=>?_|refine nM raw _ zp hr fun a p2 a0 a1 hp2=>?_|refine jD fun r r0 r1=>?_)|refine zG ?_|apply zA|intro h|exact zT));all_goals conv=>whnf
 ·exact hK _ _ zp
 ·exact hK ⟨r,c,r0,r1⟩ _ zp
 ·exact hK ⟨a,c,a0,a1⟩ _ zp
theorem eD(n:ByteArray)(c:Int)(r v:Bool)(s:ByteArray):∃a:Dv,AV.agg [.v (.string n),.v (.int .i64 c),.sb r,.sb v,.v (.string s)]=pY a:=⟨⟨n,c,r,v,s⟩,rfl⟩
theorem eL(a b c:Int):∃x:Lk,AV.agg [.v (.int .i64 a),.v (.int .i64 b),.v (.int .i64 c)]=Dn x:=⟨⟨a,b,c⟩,rfl⟩
theorem eE(n:ByteArray)(d:Int)(z:ByteArray)(p:Pf)(b:Bool):∃a:Ed,AV.agg [.v (.string n),.v (.int .i64 d),.v (.string z),.v (.int .u32 p.addr),.v (.int .i64 p.bits),.sb b]=lY a:=⟨⟨n,d,z,p,b⟩,rfl⟩
theorem eP(p:Pf):∃a:Pf,AV.agg [.v (.int .u32 p.addr),.v (.int .i64 p.bits)]=lN a:=⟨p,rfl⟩
theorem Vn{α:Type}{f:α->AV}(l:List α):∀y,y∈l.map f->∃a,y=f a:=fun y hy=>by
 obtain⟨a,_,rfl⟩:=bQ.1 hy;exact⟨a,rfl⟩
theorem nP{Q:AV->Prop}{l:List AV}{x:AV}(h:∀y,y∈l->Q y)(hx:Q x):∀y,y∈l++[x]->Q y:=fun y hy=>by
 rcases aX.1 hy with h1|h1
 ·exact h y h1
 ·rw[aU.1 h1];exact hx
theorem nQ{Q:AV->Prop}{l:List AV}{i:Nat}{x:AV}(h:∀y,y∈l->Q y)(hx:Q x):∀y,y∈l.set i x->Q y:=fun y hy=>by
 rcases List.mem_or_eq_of_mem_set hy with h1|h1
 ·exact h y h1
 ·rw[h1];exact hx
theorem mS{Q:AV->Prop}{l:List AV}{i:Nat}(h:∀y,y∈l->Q y):∀y,y∈l.drop i->Q y:=fun y hy=>h y (dZ hy)
theorem mT{Q:AV->Prop}{l:List AV}{i:Nat}(h:∀y,y∈l->Q y):∀y,y∈l.take i->Q y:=fun y hy=>h y (cP hy)
abbrev Mz(x:Sm):Vm.Obj:=.box (aRK x)
def sm0:Sm:=⟨false,⟨#[]⟩,⟨#[]⟩,⟨#[]⟩,false,⟨#[]⟩,⟨#[]⟩,⟨#[]⟩,⟨#[]⟩,0⟩
end Go.Proofs.YtgicddadddhonaaGreatDoor
