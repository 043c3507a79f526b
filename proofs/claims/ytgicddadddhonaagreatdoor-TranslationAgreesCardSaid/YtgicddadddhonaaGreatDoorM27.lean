/- Lemmas. -/
import Derived.Test.YtgicddadddhonaaGreatDoorProg
import Derived.Shelf.SlLaysF0
import Derived.Shelf.SlSortCmp.WholeK
import Derived.Shelf.SlSortCmp.NoneTotal
import Derived.Test.YtgicddadddhonaaGreatDoorM26
set_option linter.unusedVariables false
set_option linter.unusedSimpArgs false
set_option maxRecDepth 100000
set_option maxHeartbeats 4000000
namespace Go.Proofs.YtgicddadddhonaaGreatDoor
open Go Go.Vm
noncomputable def aUb:Ctx:={N:=31}
abbrev aPX:=ofD aUb Tryz.func56
noncomputable def aNq:Ctx:={N:=13}
abbrev aIp:=ofD aNq Tryz.func201
noncomputable def aUd:Ctx:={N:=9,lend:=oz [199]}
abbrev aPY:=ofD aUd Tryz.func116
noncomputable def aUc:Ctx:={N:=20,np:=1,own:=oz [42,43,44],plan:=p1 2 (lz [3,5,7,11] (.wch 0 (ln [8,12,14,16,19]))) pn}
abbrev aDu:=ofD aUc Tryz.func10
noncomputable def Bm:Sched:=lz [1,3,5,7,9,15,17,19,21,23] (.wch 5 (ln [12,24,27,28,30,33]))
noncomputable def aTN:Ctx:={N:=28,plan:=p1 5 Bm pn,out:=true}
abbrev J3:=ofD aTN Tryz.func102
noncomputable def gnCpI:Ctx:={N:=55,own:=oz [102],plan:=p1 1 (lz [1,3,7] (.wch 4 (.alt 2 (.alt 5 (ln [13,14,16]) (.alt 7 (ln [10,13,16]) Ab)) (.alt 7 (ln [4,10,13,16]) Ab)))) (p1 5 (lz [1,5,9,19,21,23,25,27,29] (.wch 3 (lz [11,13] (.wch 7 (.alt 1 (ln [16,30,33,34,36,39,40]) (.alt 8 (.alt 1 (ln [30,33,34,36,39,40]) (.alt 15 (ln [3,33,34,36,39,40]) Ab)) Ab)))))) pn),hints:=h1 2 [.freeze 1] (h1 6 [.flatB 3 2,.virtB 3 1 2,.virtB 3 2 2] hn),out:=true}
noncomputable def aTO:Ctx:={N:=28,plan:=p1 5 Bm pn,hints:=h1 6 [.flatS 3,.virt 3 2] hn,out:=true}
abbrev aPK:=ofD aTO Tryz.func102
noncomputable def aTM:Ctx:={N:=55,own:=oz [102],plan:=gnCpI.plan,hints:=h1 2 [.freeze 1] (h1 6 [.flatB 3 2,.virtB 3 2 2] hn),out:=true}
abbrev aPJ:=ofD aTM Tryz.func45
noncomputable def aTP:Ctx:={N:=55,own:=oz [102],plan:=gnCpI.plan,hints:=h1 2 [.freeze 1] (h1 6 [.flatB 3 2,.virtB 3 2 2] hn),out:=true}
abbrev aPL:=ofD aTP Tryz.func45
noncomputable def aTS:Ctx:={N:=8,np:=1,own:=oz [14]}
abbrev aPO:=ofD aTS Tryz.func47
noncomputable def A7:Sched:=ln [18,21,23,25,26,29,30,32,35,36]
noncomputable def Ca:Sched:=lz [11] (.wch 6 (.alt 7 A7 (.alt 9 (ln [14,21,23,25,26,29,30,32,35,36]) Ab)))
noncomputable def Bg:Sched:=lz [8,11] (.wch 6 A7)
noncomputable def B6:Sched:=lz [21,23,25] (.alt 2 (ln [11,13,26,29,30,32,35,36]) (.alt 13 (ln [4,11,13,29,30,32,35,36]) Ab))
noncomputable def Cj:Sched:=.alt 2 (lz [11] (.wch 6 A7)) (.alt 9 B6 Ab)
noncomputable def Bb:Sched:=ln [26,29,32,35,37,39,40,43,44,46,49,50]
noncomputable def Bn:Sched:=lz [18,21] (.wch 11 Bb)
noncomputable def A8:Sched:=ln [32,35,37,39,40,43,44,46,49,50]
noncomputable def Cd:Sched:=.alt 7 (lz [21] (.wch 11 A8)) (.alt 16 (ln [35,37,14,21,23,39,40,43,44,46,49,50]) Ab)
noncomputable def Ct:Sched:=.alt 7 (lz [21] (.wch 11 Bb)) (.alt 13 (lz [29] Cd) Ab)
noncomputable def C2:Sched:=lz [11] (.wch 6 (.alt 7 Bn (.alt 9 Ct Ab)))
noncomputable def B2:Sched:=lz [8,11] (.wch 6 Bn)
noncomputable def B0:Sched:=.alt 2 (ln [11,13,40,43,44,46,49,50]) (.alt 20 (ln [4,11,13,43,44,46,49,50]) Ab)
noncomputable def Ck:Sched:=.alt 2 (lz [11] (.wch 6 A8)) (.alt 16 (lz [35,37,39] B0) Ab)
noncomputable def Cx:Sched:=lz [21] (.wch 11 (.alt 2 (lz [11] (.wch 6 Bb)) (.alt 13 (lz [29] Ck) Ab)))
noncomputable def C5:Sched:=.alt 2 (lz [11] (.wch 6 Bn)) (.alt 9 Cx Ab)
noncomputable def A1:Sched:=.wch 6 (ln [16,19,20,22,25,26])
noncomputable def Aw:Sched:=ln [36,39,41,43,44,46,49,50]
noncomputable def Bf:Sched:=lz [28,31] (.wch 16 Aw)
noncomputable def B8:Sched:=.alt 12 (lz [31] (.wch 16 Aw)) (.alt 18 (ln [39,41,24,31,33,43,44,46,49,50]) Ab)
noncomputable def Cq:Sched:=lz [21] (.wch 11 (.alt 12 Bf (.alt 14 B8 Ab)))
noncomputable def Bk:Sched:=.wch 11 Bf
noncomputable def C0:Sched:=.alt 9 Cq (.alt 12 (lz [18,21] Bk) Ab)
noncomputable def Cf:Sched:=lz [31] (.wch 16 (.alt 7 (lz [21] (.wch 11 Aw)) (.alt 18 (ln [39,41,14,21,23,43,44,46,49,50]) Ab)))
noncomputable def Cu:Sched:=.alt 7 (lz [21] Bk) (.alt 14 Cf Ab)
noncomputable def C3:Sched:=.alt 7 (lz [18,21] Bk) (.alt 9 Cu Ab)
noncomputable def C6:Sched:=.alt 6 C0 (.alt 12 (lz [12,18,21] Bk) Ab)
noncomputable def C8:Sched:=.alt 6 C3 (.alt 7 (lz [12,18,21] Bk) Ab)
noncomputable def Bz:Sched:=lz [6,9,12,18,21] Bk
noncomputable def A2:Sched:=ln [36,40,43,45,47,48,50,53,54]
noncomputable def Bc:Sched:=.wch 16 A2
noncomputable def Ax:Sched:=ln [40,43,45,47,48,50,53,54]
noncomputable def B9:Sched:=.alt 12 (lz [31] (.wch 16 Ax)) (.alt 20 (ln [43,45,24,31,33,47,48,50,53,54]) Ab)
noncomputable def Cl:Sched:=.alt 12 (lz [31] Bc) (.alt 18 B9 Ab)
noncomputable def Cw:Sched:=.alt 12 (lz [28,31] Bc) (.alt 14 Cl Ab)
noncomputable def Bj:Sched:=lz [20,23,28,31] Bc
noncomputable def C4:Sched:=lz [15] (.wch 8 (.alt 10 (lz [23] Cw) (.alt 12 Bj Ab)))
noncomputable def Bt:Sched:=.wch 8 Bj
noncomputable def C9:Sched:=.alt 6 C4 (.alt 12 (lz [12,15] Bt) Ab)
noncomputable def B7:Sched:=.alt 4 (lz [15] (.wch 8 Ax)) (.alt 20 (ln [43,45,8,15,17,47,48,50,53,54]) Ab)
noncomputable def Co:Sched:=lz [31] (.wch 16 (.alt 4 (lz [15] (.wch 8 A2)) (.alt 18 B7 Ab)))
noncomputable def Cz:Sched:=.alt 4 (lz [15] (.wch 8 (lz [28,31] Bc))) (.alt 14 Co Ab)
noncomputable def C7:Sched:=.alt 4 (lz [15] Bt) (.alt 10 (lz [23] Cz) Ab)
noncomputable def Da:Sched:=.alt 4 (lz [12,15] Bt) (.alt 6 C7 Ab)
noncomputable def A9:Sched:=ln [26,30,33,35,37,39,40,42,45,46]
noncomputable def Bh:Sched:=lz [18,21] (.wch 11 A9)
noncomputable def A3:Sched:=ln [30,33,35,37,39,40,42,45,46]
noncomputable def Cc:Sched:=.alt 7 (lz [21] (.wch 11 A3)) (.alt 15 (ln [33,35,37,14,21,23,39,40,42,45,46]) Ab)
noncomputable def Cm:Sched:=.alt 7 (lz [21] (.wch 11 A9)) (.alt 13 Cc Ab)
noncomputable def Cy:Sched:=lz [11] (.wch 6 (.alt 7 Bh (.alt 9 Cm Ab)))
noncomputable def Bw:Sched:=lz [8,11] (.wch 6 Bh)
noncomputable def Cb:Sched:=.alt 2 (lz [11] (.wch 6 A3)) (.alt 15 (ln [33,35,37,4,11,13,39,40,42,45,46]) Ab)
noncomputable def Cr:Sched:=lz [21] (.wch 11 (.alt 2 (lz [11] (.wch 6 A9)) (.alt 13 Cb Ab)))
noncomputable def C1:Sched:=.alt 2 (lz [11] (.wch 6 Bh)) (.alt 9 Cr Ab)
noncomputable def gnSpo:Ctx:={N:=272,np:=1,own:=oz [45,14,33,48,46,47],plan:=p1 6 (lz [1,7,17] (.wch 1 (.alt 2 (.alt 4 Ca (.alt 7 Bg Ab)) (.alt 4 (.alt 2 Ca (.alt 7 Cj (.alt 9 (.alt 2 (ln [11,13,14,21,23,25,26,29,30,32,35,36]) (.alt 7 B6 Ab)) Ab))) (.alt 7 (.alt 2 Bg (.alt 4 Cj Ab)) Ab))))) (p1 9 (lz [1,11,19] (.wch 1 (lz [5,7] (.wch 4 (.alt 6 (lz [15] (.alt 8 (ln [20,23,25,27,29,30]) (.alt 10 (ln [16,23,25,27,29,30]) Ab))) (.alt 8 (ln [12,15,20,23,25,27,29,30]) Ab)))))) (p1 11 (lz [1,7,17,25,31] (.wch 1 (.alt 2 (.alt 4 C2 (.alt 7 B2 Ab)) (.alt 4 (.alt 2 C2 (.alt 7 C5 (.alt 9 (.alt 2 (lz [11] (.wch 6 Ct)) (.alt 7 Cx (.alt 13 (lz [29] (.alt 2 (lz [11] (.wch 6 Cd)) (.alt 7 (lz [21] (.wch 11 Ck)) (.alt 16 (lz [35,37] (.alt 2 (ln [11,13,14,21,23,39,40,43,44,46,49,50]) (.alt 7 (lz [21,23,39] B0) Ab))) Ab)))) Ab))) Ab))) (.alt 7 (.alt 2 B2 (.alt 4 C5 Ab)) Ab))))) (p1 13 (lz [1,7] (.wch 1 (.alt 2 (ln [8,11,13,15,16,19,20,22,25,26]) (.alt 4 (ln [4,11,13,15,16,19,20,22,25,26]) Ab)))) (p1 15 (lz [1,7,15] (.wch 1 (.alt 2 (lz [8,11] A1) (.alt 4 (.alt 2 (lz [11] A1) (.alt 8 (ln [4,11,13,19,20,22,25,26]) Ab)) Ab)))) (p1 17 (lz [1,5,11,17,27,35] (.wch 1 (.alt 3 (lz [9] (.alt 6 (.alt 7 C0 (.alt 9 (.alt 7 Cq (.alt 12 Cu (.alt 14 (.alt 7 (lz [21] (.wch 11 B8)) (.alt 12 Cf (.alt 18 (lz [39,41] (.alt 7 (ln [21,23,24,31,33,43,44,46,49,50]) (.alt 12 (ln [31,33,14,21,23,43,44,46,49,50]) Ab))) Ab))) Ab))) (.alt 12 C3 Ab))) (.alt 7 C6 (.alt 12 C8 Ab)))) (.alt 7 (.alt 3 (lz [9] C6) (.alt 12 Bz Ab)) (.alt 12 (.alt 3 (lz [9] C8) (.alt 7 Bz Ab)) Ab))))) (p1 20 B4 (p1 25 (lz [1,5,11,19,27,35,39] (.wch 1 (.alt 3 (.alt 4 C9 (.alt 6 (.alt 4 C4 (.alt 10 (lz [23] (.alt 4 (lz [15] (.wch 8 Cw)) (.alt 12 Cz (.alt 14 (.alt 4 (lz [15] (.wch 8 Cl)) (.alt 12 Co (.alt 18 (.alt 4 (lz [15] (.wch 8 B9)) (.alt 12 (lz [31] (.wch 16 B7)) (.alt 20 (lz [43,45] (.alt 4 (ln [15,17,24,31,33,47,48,50,53,54]) (.alt 12 (ln [31,33,8,15,17,47,48,50,53,54]) Ab))) Ab))) Ab))) Ab)))) (.alt 12 C7 Ab))) (.alt 12 Da Ab))) (.alt 4 (.alt 3 C9 (.alt 12 (lz [6,12,15] Bt) Ab)) (.alt 12 (.alt 3 Da (.alt 4 (lz [6,12,15] Bt) Ab)) Ab))))) (p1 28 Am (p1 30 (lz [1,7,17,25,29] (.wch 1 (.alt 2 (.alt 4 Cy (.alt 7 Bw Ab)) (.alt 4 (.alt 2 Cy (.alt 7 C1 (.alt 9 (.alt 2 (lz [11] (.wch 6 Cm)) (.alt 7 Cr (.alt 13 (.alt 2 (lz [11] (.wch 6 Cc)) (.alt 7 (lz [21] (.wch 11 Cb)) (.alt 15 (lz [33,35,37] (.alt 2 (ln [11,13,14,21,23,39,40,42,45,46]) (.alt 7 (ln [21,23,4,11,13,39,40,42,45,46]) Ab))) Ab))) Ab))) Ab))) (.alt 7 (.alt 2 Bw (.alt 4 C1 Ab)) Ab))))) (p1 33 Am pn)))))))))),hints:=h1 6 [.flatB 5 0] (h1 11 [.flatB 5 0] (h1 13 [.flatB 5 0] (h1 15 [.flatB 5 0] (h1 17 [.flatB 5 0] (h1 19 [.flatB 5 0] (h1 22 [.flatB 5 0] (h1 25 [.flatB 5 0] (h1 27 [.flatB 5 0] (h1 30 [.flatB 5 0] (h1 32 [.flatB 5 0] (h1 3 [.flatB 5 0] (h1 37 [.flatB 5 0] hn))))))))))))}
noncomputable def aNk:Ctx:={N:=88}
abbrev aIk:=ofD aNk Tryz.func25
noncomputable def aTW:Ctx:={N:=272,np:=1,own:=oz [45,14,33,48,46,47],plan:=gnSpo.plan}
abbrev rE:=ofD aTW Tryz.func11
noncomputable def aNp:Ctx:={N:=272,np:=1,own:=oz [45,14,33,48,46,47],plan:=gnSpo.plan,hints:=h1 37 [.flatB 5 0] hn}
abbrev aIo:=ofD aNp Tryz.func11
noncomputable def gnSpW:Ctx:={N:=272,np:=1,own:=oz [45,14,33,48,46,47],plan:=gnSpo.plan,cut:=oz [37]}
noncomputable def aRE:Code:=bdy Tryz.f11
abbrev aPS:=ofD gnSpW Tryz.func11
end Go.Proofs.YtgicddadddhonaaGreatDoor
namespace Go.Vm
abbrev vT:=Option Nat×Sched×Array Bool
def Hj(own:FuncId->Bool)(ops:Array Oper)(q:vT):Bool:=
 match q.1,q.2.1,q.2.2 with
 |none,.done,L=>(Region.ready .any ops L).isEmpty
 |none,.one i true rest,L=>(Region.ready .any ops L).contains i&&(Region.free .any ops L i&&(((ops[i]?).map fun o=>kW o.op).getD false&&
   (((ops[i]?).map fun o=>D1 o.op).getD false||(List.range ops.size).all fun j=>L.getD j true||(((ops[j]?).map fun o=>kW o.op||oO own o.op).getD true||oD ops ops.size j i))))
 |none,.one i false rest,L=>decide (Region.ready .any ops L=[i])
 |none,.alt i a more,L=>decide (Region.ready .any ops L=i::more.heads)
 |some d,.alt i a more,L=>a.depth==d
 |some _,.stop,_=>true
 |none,.wch i rest,L=>(Region.ready .any ops L).contains i&&Region.free .any ops L i
 |_,_,_=>false
def Gw(q:vT):List vT:=
 match q.1,q.2.1,q.2.2 with
 |none,.one i _ rest,L=>[(none,rest,L.setIfInBounds i true)]
 |none,.alt i a more,L=>[(none,a,L.setIfInBounds i true),(some a.depth,more,L)]
 |some d,.alt i a more,L=>[(none,a,L.setIfInBounds i true),(some d,more,L)]
 |none,.wch i rest,L=>[(none,rest,L.setIfInBounds i true)]
 |_,_,_=>[]
def okP(own:FuncId->Bool)(ops:Array Oper)(q:vT):Bool:=lF own ops q.1 q.2.1 q.2.2
theorem aEl{own:FuncId->Bool}{ops:Array Oper}{q:vT}(h1:Hj own ops q=true)(h2:(Gw q).all (okP own ops)=true):okP own ops q=true:=by
 obtain⟨c,s,L⟩:=q;unfold okP;cases c with
 |none=>
  cases s with
  |done=>simpa[lF,Hj]using h1
  |one i b rest=>
   cases b with
   |true=>
    simp only[Hj,Gw,eZ,gQ,eK,okP,aJ]at h1 h2;simp only[lF,aJ];exact⟨h1.1,h1.2.1,h1.2.2.1,h1.2.2.2,h2⟩
   |false=>
    simp only[Hj,Gw,eZ,gQ,eK,okP]at h1 h2;simp only[lF,aJ];exact⟨h1,h2⟩
  |alt i a more=>
   simp only[Hj,Gw,eZ,gQ,eK,okP,aJ]at h1 h2;simp only[lF,aJ];exact⟨h1,h2.1,h2.2⟩
  |stop=>simp[Hj]at h1
  |wch i rest=>
   simp only[Hj,Gw,eZ,gQ,eK,okP,aJ]at h1 h2;simp only[lF,aJ];exact⟨h1.1,h1.2,h2⟩
 |some d=>
  cases s with
  |alt i a more=>
   simp only[Hj,Gw,eZ,gQ,eK,okP,aJ]at h1 h2;simp only[lF,aJ];exact⟨h1,h2.1,h2.2⟩
  |stop=>rfl
  |done=>simp[Hj]at h1
  |one _ _ _=>simp[Hj]at h1
  |wch _ _=>simp[Hj]at h1
def Oj:Nat->List vT->List vT
 |0,l=>l
 |n+1,l=>Oj n (l.flatMap Gw)
def Q9(own:FuncId->Bool)(ops:Array Oper):Nat->List vT->Bool
 |0,_=>true
 |n+1,l=>l.all (Hj own ops)&&Q9 own ops n (l.flatMap Gw)
theorem Q2{own:FuncId->Bool}{ops:Array Oper}:∀(n:Nat) {l:List vT},Q9 own ops n l=true->(Oj n l).all (okP own ops)=true->l.all (okP own ops)=true
 |0,_,_,h=>h
 |n+1,l,h1,h2=>by
  simp only[Q9,aJ,bT]at h1;have h3:=Q2 n h1.2 h2;rw[bT]at h3⊢;intro q hq;refine aEl (h1.1 q hq) (bT.2 fun k hk=>h3 k (eA.2 ⟨q,hq,hk⟩))
def Si(ops:Array Oper)(s:Sched):List vT:=[(none,s,Array.replicate ops.size false)]
theorem Nh{α:Type}{p:α->Bool}{l:List α}(k:Nat)(h1:(l.take k).all p=true)(h2:(l.drop k).all p=true):l.all p=true:=by
 rw[<-cU k l,List.all_append,h1,h2];rfl
theorem Zw{own:FuncId->Bool}{ops:Array Oper}{s:Sched}(n:Nat)(h0:(Region.noSelect ops&&s.depth==ops.size)=true)(h1:Q9 own ops n (Si ops s)=true)(h2:(Oj n (Si ops s)).all (okP own ops)=true):Fw own ops s=true:=by
 have h:=Q2 n h1 h2;simp only[Si,eZ,gQ,eK,okP]at h;simp only[aJ]at h0;simp only[Fw,aJ];exact⟨h0.1,h0.2,h⟩
def G3(i:Nat):Code->Option (Array Oper)
 |.region id ops _=>match Nat.beq id i with
  |true=>some ops
  |false=>none
 |.seq a b=>match G3 i a with
  |some x=>some x
  |none=>G3 i b
 |.cond _ a b=>match G3 i a with
  |some x=>some x
  |none=>G3 i b
 |.block _ b=>G3 i b
 |.loop b=>G3 i b
 |.scope b=>G3 i b
 |_=>none
def aXb(i:Nat)(c:Code):Array Oper:=match G3 i c with
 |some x=>x
 |none=>#[]
def aXa(Γ:Ctx)(i:Nat):Sched:=match Γ.plan i with
 |some s=>s
 |none=>.stop
open Go.ChangeShapes Go.WideShapes
def TyL(P:Program)(L:Nat):Nat->TypeId->AV->Prop
 |0,_,_=>False
 |n+1,t,x=>match P.underlying t with
  |some .bool=>∃b,x=.sb b
  |some (.int k)=>∃i,x=.v (.int k i)/\k.min<=i/\i<=k.max
  |some .string=>∃s,x=.v (.string s)/\s.size<=maxLen
  |some (.slice e)=>∃xs,x=.lst xs/\xs.length<=maxLen/\xs.length<=L/\∀y,y∈xs->TyL P L n e y
  |some (.struct fs)=>∃ys:List AV,ys.length=fs.size/\x=.agg (ys.flatMap AV.cells)/\∀(i:Nat) f y,fs[i]? =some f->ys[i]? =some y->TyL P L n f.type y
  |some (.array m e)=>∃ys:List AV,ys.length=m/\x=.agg (ys.flatMap AV.cells)/\∀y,y∈ys->TyL P L n e y
  |_=>False
theorem TyL.ty{P:Program}{L:Nat}:∀{d:Nat} {t:TypeId} {x:AV},TyL P L d t x->Ty P d t x
 |0,_,_,h=>h
 |d+1,t,x,h=>by
  simp only[TyL]at h;simp only[Ty];cases hu:P.underlying t with
  |none=>simp only[hu]at h
  |some D=>
   simp only[hu]at h⊢;cases D with
   |bool=>exact h
   |int k=>exact h
   |string=>exact h
   |slice e=>
    obtain⟨xs,h1,h2,_,h3⟩:=h;exact⟨xs,h1,h2,fun y hy=>(h3 y hy).ty⟩
   |struct fs=>
    obtain⟨ys,h1,h2,h3⟩:=h;exact⟨ys,h1,h2,fun i f y hf hy=>(h3 i f y hf hy).ty⟩
   |array m e=>
    obtain⟨ys,h1,h2,h3⟩:=h;exact⟨ys,h1,h2,fun y hy=>(h3 y hy).ty⟩
   |_=>exact h.elim
def Ew(P:Program):Nat->TypeId->Bool
 |0,_=>false
 |n+1,t=>match P.underlying t with
  |some .bool=>true
  |some (.int _)=>true
  |some .string=>true
  |some (.slice e)=>decide (0<P.cellsOf e)&&(decide (0<P.bytesOf e)&&Ew P n e)
  |some (.struct fs)=>oH P (P.cellsOf t) 0 fs.toList&&fs.toList.all fun f=>Ew P n f.type
  |some (.array m e)=>decide (P.cellsOf t=m*P.cellsOf e)&&Ew P n e
  |_=>false
theorem sM{H:Type}{P:Program}{e:TypeId}:∀{l:List (DataW H)} {x:DataW H} {n:Nat},x∈l->n∈x.weights P e->n∈DataW.weightsAll P e l
 |[],_,_,h,_=>by cases h
 |y::l,x,n,h,hn=>by
  simp only[DataW.weightsAll];rcases aZ.1 h with rfl|h
  ·exact cF _ hn
  ·exact eT _ (sM h hn)
theorem vF{H:Type}{P:Program}:∀{ts:List TypeId} {l:List (DataW H)} {i:Nat} {t:TypeId} {x:DataW H} {n:Nat},ts[i]? =some t->l[i]? =some x->n∈x.weights P t->n∈DataW.weightsEach P ts l
 |[],_,_,_,_,_,h,_,_=>by simp at h
 |_::_,[],_,_,_,_,_,h,_=>by simp at h
 |t'::ts,y::l,0,t,x,n,h1,h2,hn=>by
  simp at h1 h2;subst h1;subst h2;simp only[DataW.weightsEach];exact cF _ hn
 |t'::ts,y::l,i+1,t,x,n,h1,h2,hn=>by
  simp only[DataW.weightsEach];exact eT _ (vF (by simpa using h1) (by simpa using h2) hn)
theorem rG{H:Type}{P:Program}:∀{ts us:List TypeId} {l:List (DataW H)} {n:Nat},n∈DataW.weightsEach P ts l->n∈DataW.weightsEach P (ts++us) l
 |[],_,_,_,h=>by simp[DataW.weightsEach]at h
 |_::_,_,[],_,h=>by simp[DataW.weightsEach]at h
 |t::ts,us,x::l,n,h=>by
  simp only[DataW.weightsEach,eW]at h⊢;rcases aX.1 h with h|h
  ·exact cF _ h
  ·exact eT _ (rG h)
section
variable {H:Type} {enc:TypeId×Value->H} {P:Program} {w:World} {held:Bool}
theorem rT(L:Nat):∀(d:Nat) {t:TypeId} {fuel:Nat} {cs:List Value} {x:DataW H×List MemPlace},Ew P d t=true->(∀n,n∈x.1.weights P t->n<=L)->DataW.trod enc P w 0 (fun _=>true) held fuel t cs=some x->
  ∃a,TyL P L d t a/\RL NoE w jR a.cells cs.toArray
 |0,t,fuel,cs,x,ht,_,_=>by simp[Ew]at ht
 |d+1,t,fuel,cs,x,ht,hL,h=>by
  simp only[Ew]at ht;simp only[TyL];cases hu:P.underlying t with
  |none=>simp[hu]at ht
  |some D=>
   simp only[hu]at ht⊢;cases D with
   |bool=>
    obtain⟨b,rfl,_⟩:=DataW.trod_bool hu h;exact⟨.sb b,⟨b,rfl⟩,RL.one (.sb b)⟩
   |int k=>
    obtain⟨n,rfl,_,hw⟩:=DataW.trod_int hu h;simp only[Lit.wf,aJ,aL]at hw;exact⟨.v (.int k n),⟨n,rfl,hw⟩,RL.one (.v _)⟩
   |string=>
    obtain⟨s,rfl,_,hs⟩:=DataW.trod_string hu h;exact⟨.v (.string s),⟨s,rfl,hs⟩,RL.one (.v _)⟩
   |slice e=>
    simp only[aJ,aL]at ht;rcases DataW.trod_slice hu h with⟨rfl,_⟩|⟨a,len,cap,elems,rest,n,_,rfl,hx,hb,hlc,hcm,hel,hget,_,_⟩
    ·exact⟨.lst [],⟨[],rfl,by simp,by simp,fun y hy=>by simp at hy⟩,RL.one (.lnil none 0)⟩
    ·subst hx;have hwt:∀n,n∈(elems.length+rest.length)*P.bytesOf e::(DataW.weightsAll P e (elems.map (·.1))++DataW.weightsAll P e (rest.map (·.1)))->n<=L:=fun n hn=>hL n (by simp only[DataW.weights,hu,aA];exact hn);have hle:elems.length<=L:=by
      have h1:=hwt _ (List.mem_cons_self ..);have h2:(elems.length+rest.length)*1<=(elems.length+rest.length)*P.bytesOf e:=dV _ ht.2.1;omega
     have each:∀i,i<len->∃y,TyL P L d e y/\∃cs',w.cells? 0 (a.add (i*P.cellsOf e)) (P.cellsOf e)=some cs'/\RL NoE w jR y.cells cs'.toArray:=by
      intro i hi;have hx:=hget i hi;rw[aE (show i<elems.length by omega),cI]at hx;obtain⟨cs',h1,h2⟩:=hx;obtain⟨y,h3,h4⟩:=rT L d ht.2.2 (fun n hn=>hwt n (aS _ (cF _ (sM (fD (dE (show i<elems.length by omega))) hn)))) h2;exact⟨y,h3,cs',h1,h4⟩
     obtain⟨ys,l1,l2⟩:=Gy each;refine⟨.lst ys,⟨ys,rfl,by omega,by omega,fun y hy=>?_⟩,RL.one ?_⟩
     ·obtain⟨i,hi⟩:=fY hy;exact(l2 i y hi).1
     ·rcases cV len with h0|h0
      ·have:ys=[]:=dR zo;subst this;subst h0;exact .lnil _ _
      ·have hcell:∀(i:Nat) y (j:Nat) c,ys[i]? =some y->y.cells[j]? =some c->∃u,w.cell? ((a.add (i*P.cellsOf e)).add j)=some u/\Rel NoE w jR c u:=by
        intro i y j c hy hc;obtain⟨_,cs',c1,c2⟩:=l2 i y hy;obtain⟨_,c3,c4⟩:=World.cells?_some c1;have hj:j<y.cells.length:=(aP.1 hc).1;have hj':j<cs'.length:=by have:=c2.1;simp at this;omega
        rw[c4 j zo,aE hj'];exact⟨_,rfl,c2.2 j c _ hc (by simp[hj'])⟩
       have hlenc:∀(i:Nat) y,ys[i]? =some y->y.cells.length=P.cellsOf e:=by
        intro i y hy;obtain⟨_,cs',c1,c2⟩:=l2 i y hy;obtain⟨_,c3,c4⟩:=World.cells?_some c1;have:=c2.1;simp at this;omega
       have h00:ys[0]? =some (ys[0]'zo):=aE _;have hc0:((ys[0]'zo).cells)[0]? =some (((ys[0]'zo).cells)[0]'(by rw[hlenc 0 _ h00];exact ht.1)):=aE _;obtain⟨u0,hu0,_⟩:=hcell 0 _ 0 _ h00 hc0;have hs:a.spot=none:=by
        simp only[fF,Addr.add,if_true]at hu0;cases hsp:a.spot with
        |none=>rfl
        |some k=>
         unfold World.cell? at hu0;rw[hsp]at hu0;split at hu0
         ·simp at hu0
         ·cases hu0
       obtain⟨b,off,spot⟩:=a;simp only at hs;subst hs;have hadd:∀i j:Nat,((⟨b,off,none⟩:Addr).add (i*P.cellsOf e)).add j=⟨b,off+i*P.cellsOf e+j,none⟩:=by
        intro i j;simp only[Addr.add];by_cases h1:i*P.cellsOf e=0<;>by_cases h2:j=0<;>simp[h1,h2]
       refine .lst ys b off len cap (P.cellsOf e) (fun hh=>hh) ?_ l1.symm hlc hlenc (fun i j=>(w.cell? ⟨b,off+i*P.cellsOf e+j,none⟩).getD (.bool false)) (fun i y j c hy hc=>?_) (fun i y j c hy hc=>?_)
       ·rw[hadd]at hu0;exact lt_of_cell (a:=⟨b,_,none⟩) (by rw[hu0];rfl)
       ·obtain⟨u,e1,_⟩:=hcell i y j c hy hc;rw[hadd]at e1;rw[e1];rfl
       ·obtain⟨u,e1,e2⟩:=hcell i y j c hy hc;rw[hadd]at e1;simp only[e1,cY];exact e2
   |struct fs=>
    simp only[aJ,bT]at ht;obtain⟨xs,n,_,hxe,hl,hxl,hf⟩:=DataW.trod_struct hu h;subst hxe;obtain⟨ys,a1,a2,a3⟩:=Mq (w:=w) (cs:=cs) (Q:=fun f y=>TyL P L d f.type y) (aK _) hl ht.1 (fun f hf'=>by
     obtain⟨i,hi⟩:=fY hf';have hi':fs[i]? =some f:=by simpa using hi
     have hlt:i<fs.size:=(eO.1 hi').1;have e1:=hf i f hi';rw[aE (show i<xs.length by omega)]at e1;exact rT L d (ht.2 f hf') (fun n hn=>hL n (by simp only[DataW.weights,hu];exact vF (t:=f.type) (i:=i) (by simp[hi]) (by rw[bX,aE (show i<xs.length by omega)];rfl) hn)) e1)
    refine⟨.agg (ys.flatMap AV.cells),⟨ys,by simpa using a1,rfl,fun i f y hfi hy=>a3 i f y (by simpa using hfi) hy⟩,?_⟩;simpa[AV.cells]using a2
   |array m e=>
    simp only[aJ,aL]at ht;obtain⟨xs,n,_,hxe,hl,hlx,hf⟩:=DataW.trod_array hu h;subst hxe;obtain⟨ys,a1,a2,a3⟩:=Sj (w:=w) (cs:=cs) (Q:=fun y=>TyL P L d e y) (hl.trans ht.1) (fun i hi=>by
     have e1:=hf i hi;rw[aE (show i<xs.length by omega)]at e1;exact rT L d ht.2 (fun n hn=>hL n (by simp only[DataW.weights,hu];exact sM (fD (dE (show i<xs.length by omega))) hn)) e1)
    exact⟨.agg (ys.flatMap AV.cells),⟨ys,a1,rfl,a3⟩,a2⟩
   |_=>simp at ht
theorem R6(L:Nat){d:Nat}{t:TypeId}{v:Value}{x:DataW H}{ps:List MemPlace}{base:Nat}(ht:Ew P d t=true)(hL:∀n,n∈x.weights P t->n<=L)(hval:Value.okWide P w .any base t v)(h:DataW.Trod enc P w 0 (fun _=>true) held t v x ps):
  ∃a,TyL P L d t a/\Rel NoE w jR a v:=by
 obtain⟨fuel,hf⟩:=h;obtain⟨a,h1,h2⟩:=rT L d ht hL hf;refine⟨a,h1,?_⟩;have single:∀{u:Value},v=u->u.cells=#[u]->a.cells=[a]->Rel NoE w jR a v:=by
  rintro u rfl e1 e2
  rw[e1,e2]at h2;exact h2.2 0 a v rfl rfl
 cases d with
 |zero=>exact h1.elim
 |succ d=>
  simp only[TyL]at h1;cases hu:P.underlying t with
  |none=>simp[hu]at h1
  |some D=>
   simp only[hu]at h1;cases D with
   |bool=>
    obtain⟨b,rfl⟩:=h1;obtain⟨b',hv⟩:=okWide_bool hu hval;exact single hv rfl rfl
   |int k=>
    obtain⟨b,rfl,_⟩:=h1;obtain⟨b',hv⟩:=okWide_int hu hval;exact single hv rfl rfl
   |string=>
    obtain⟨b,rfl,_⟩:=h1;obtain⟨b',hv⟩:=okWide_string hu hval;exact single hv rfl rfl
   |slice e=>
    obtain⟨b,rfl,_⟩:=h1;obtain⟨_,_,_,hv⟩:=okWide_slice hu hval;exact single hv rfl rfl
   |struct fs=>
    obtain⟨ys,_,rfl,_⟩:=h1;obtain⟨cs,rfl,_⟩:=okWide_struct hu hval;exact .agg _ _ (by simpa[AV.cells,Value.cells]using h2.1) (by simpa[AV.cells,Value.cells]using h2.2)
   |array m e=>
    obtain⟨ys,_,rfl,_⟩:=h1;simp only[Value.okWide,hu]at hval;obtain⟨cs,rfl,_⟩:=hval;exact .agg _ _ (by simpa[AV.cells,Value.cells]using h2.1) (by simpa[AV.cells,Value.cells]using h2.2)
   |_=>exact h1.elim
def X7(P:Program)(L d:Nat):List TypeId->List AV->Prop
 |[],[]=>True
 |t::ts,a::qs=>TyL P L d t a/\X7 P L d ts qs
 |_,_=>False
theorem Ei(L:Nat){d base:Nat}:∀{ts:List TypeId} {vs:List Value} {xs:List (DataW H)} {ps:List MemPlace},(ts.all fun t=>Ew P d t)=true->(∀n,n∈DataW.weightsEach P ts xs->n<=L)->
  (∀(j:Nat) t v,ts[j]? =some t->vs[j]? =some v->Value.okWide P w .any base t v)->DataW.TrodAll enc P w 0 (fun _=>true) held ts vs xs ps->
  ∃qs,X7 P L d ts qs/\RL NoE w jR qs vs.toArray
 |[],vs,xs,ps,_,_,_,h=>by
  match vs,xs,h with
  |[],[],h=>exact⟨[],trivial,⟨rfl,fun i x y hx=>by simp at hx⟩⟩
 |t::ts,vs,xs,ps,ht,hL,hval,h=>by
  match vs,xs,h with
  |v::vs,x::xs,h=>
   obtain⟨p,q,h1,h2,rfl⟩:=h;simp only[eZ,aJ]at ht;obtain⟨a,a1,a2⟩:=R6 L ht.1 (fun n hn=>hL n (by simp only[DataW.weightsEach];exact cF _ hn)) (hval 0 t v rfl rfl) h1;obtain⟨qs,b1,b2⟩:=Ei L (base:=base) ht.2 (fun n hn=>hL n (by simp only[DataW.weightsEach];exact eT _ hn)) (fun j t v hj hv=>hval (j+1) t v hj hv) h2;exact⟨a::qs,⟨a1,b1⟩,RL.app (RL.one a2) b2⟩
theorem Ky(L:Nat){f:FuncId}{fn:Func}{s:ChangeSpec}{d base:Nat}{t:TypeId}(hl:laidOutB P=true)(hp:J8 P fn.params.toList=true)(hty:(fn.params.toList.all fun t=>Ew P d t)=true)(hv:s.vars=[])
  (hr:fn.resultTypes=#[t])(ht:P.underlying t=some .bool)(hs:∀ds:List (DataW H),ds.length=fn.params.size->s.fn H ds={results:=[.lit (.bool true)],args:=ds})
  (hc:∀qs,X7 P L d fn.params.toList qs->ACall P f qs [] fun r _=>r=.sb true\/r=.v (.bool true))
  {W:World}(hg:GlobOk NoE W){args:Array Value}{ds gs:List (DataW H)}{before:List MemPlace}(hval:∀(j:Nat) t v,fn.params[j]? =some t->args[j]? =some v->Value.okWide P W .any base t v)
  (hW:DataW.Whole enc P fn.params.toList s.vars false W args.toList ds gs before)(hwt:(DataW.weightsEach P (fn.params.toList++s.plain.varTypes P) (ds++gs)).all (· <=L)=true):
  Calls P f args W fun e W'=>∃v,e=.returned v/\s.post enc P fn false true false false W args v W':=by
 have hW1:=hW;obtain⟨pa,pv,hA,hV,hps,_,_⟩:=hW;have hgs:gs=[]:=by
  rw[hv]at hV;obtain⟨rfl,rfl⟩:=trodVars_none hV;rfl
 subst hgs;obtain⟨qs,h1,h2⟩:=Ei L (d:=d) (base:=base) hty (fun n hn=>by
  have h1:=bT.1 hwt n (by rw[bG];exact rG hn);simpa using h1) (fun j t v hj hv=>hval j t v (by simpa using hj) (by simpa using hv)) hA
 have hlen:∀{ts:List TypeId} {vs:List Value} {xs:List (DataW H)} {ps:List MemPlace},DataW.TrodAll enc P W 0 (fun _=>true) true ts vs xs ps->xs.length=ts.length:=by
  intro ts
  induction ts with
  |nil=>intro vs xs ps h;match vs,xs,h with|[],[],_=>rfl
  |cons t ts ih=>
   intro vs xs ps h
   match vs,xs,h with
   |v::vs,x::xs,h=>
    obtain⟨p,q,_,h2,_⟩:=h;simp[ih h2]
 have hl2:=hlen hA;refine(ACall.law (hc qs h1) hg (show RL NoE W jR qs args by simpa using h2)).mono ?_
 rintro e W' ⟨rfl,hst⟩
 exact⟨_,rfl,Rn hW1 hst hl hp hv (by rw[bG];exact hs ds (by simpa using hl2)) hr ht⟩
end
end Go.Vm
namespace Go.Proofs
open Go.Shelf
def Tryz.sortR_ren:Go.Shelf.Ren:=⟨fun|6=>290|15=>308|14=>307|28=>323|29=>324|20=>315|21=>316|22=>317|23=>318|24=>319|25=>320|26=>321|27=>322|46=>327|47=>328|48=>329|49=>330|50=>331|57=>341|n=>n,fun|22=>87|24=>55|25=>303|3=>3|39=>171|0=>0|53=>23|55=>214|4=>4|46=>324|45=>323|50=>328|5=>5|9=>9|66=>334|70=>338|76=>346|77=>272|n=>n,fun|n=>n⟩
theorem Tryz.sortR:Go.Proofs.SlLaysF0.n6 Tryz.prog Tryz.sortR_ren:={
 mixed:=by kernel_rfl
 f6:=⟨Tryz.f290.name,by decide,Tryz.func290.trans (congrArg some (by kernel_rfl))⟩
 f14:=⟨Tryz.f307.name,by decide,Tryz.func307.trans (congrArg some (by kernel_rfl))⟩
 f15:=Tryz.func308.trans (congrArg some (by kernel_rfl))
 f20:=⟨Tryz.f315.name,by decide,Tryz.func315.trans (congrArg some (by kernel_rfl))⟩
 f21:=⟨Tryz.f316.name,by decide,Tryz.func316.trans (congrArg some (by kernel_rfl))⟩
 f22:=⟨Tryz.f317.name,by decide,Tryz.func317.trans (congrArg some (by kernel_rfl))⟩
 f23:=⟨Tryz.f318.name,by decide,Tryz.func318.trans (congrArg some (by kernel_rfl))⟩
 f24:=⟨Tryz.f319.name,by decide,Tryz.func319.trans (congrArg some (by kernel_rfl))⟩
 f25:=⟨Tryz.f320.name,by decide,Tryz.func320.trans (congrArg some (by kernel_rfl))⟩
 f26:=⟨Tryz.f321.name,by decide,Tryz.func321.trans (congrArg some (by kernel_rfl))⟩
 f27:=⟨Tryz.f322.name,by decide,Tryz.func322.trans (congrArg some (by kernel_rfl))⟩
 f28:=Tryz.func323.trans (congrArg some (by kernel_rfl))
 f29:=Tryz.func324.trans (congrArg some (by kernel_rfl))
 f46:=⟨Tryz.f327.name,by decide,Tryz.func327.trans (congrArg some (by kernel_rfl))⟩
 f47:=Tryz.func328.trans (congrArg some (by kernel_rfl))
 f48:=Tryz.func329.trans (congrArg some (by kernel_rfl))
 f49:=⟨Tryz.f330.name,by decide,Tryz.func330.trans (congrArg some (by kernel_rfl))⟩
 f50:=⟨Tryz.f331.name,by decide,Tryz.func331.trans (congrArg some (by kernel_rfl))⟩
 f57:=⟨Tryz.f341.name,by decide,Tryz.func341.trans (congrArg some (by kernel_rfl))⟩
 t0:=Tryz.underlying0
 a0:=Tryz.isAgg0
 z0:=Tryz.sizeOf0
 v0:=Tryz.zeroValue0
 t3:=Tryz.underlying3
 a3:=Tryz.isAgg3
 z3:=Tryz.sizeOf3
 v3:=Tryz.zeroValue3
 t4:=Tryz.underlying4
 a4:=Tryz.isAgg4
 z4:=Tryz.sizeOf4
 v4:=Tryz.zeroValue4
 t5:=Tryz.underlying5
 a5:=Tryz.isAgg5
 z5:=Tryz.sizeOf5
 v5:=Tryz.zeroValue5
 t9:=Tryz.underlying9
 a9:=Tryz.isAgg9
 z9:=Tryz.sizeOf9
 v9:=Tryz.zeroValue9
 t22:=Tryz.underlying87
 a22:=Tryz.isAgg87
 z22:=Tryz.sizeOf87
 v22:=Tryz.zeroValue87
 t25:=Tryz.underlying303
 a25:=Tryz.isAgg303
 z25:=Tryz.sizeOf303
 v25:=Tryz.zeroValue303
 t39:=Tryz.underlying171
 a39:=Tryz.isAgg171
 z39:=Tryz.sizeOf171
 v39:=Tryz.zeroValue171
 t45:=Tryz.underlying323
 a45:=Tryz.isAgg323
 z45:=Tryz.sizeOf323
 v45:=Tryz.zeroValue323
 t46:=Tryz.underlying324
 a46:=Tryz.isAgg324
 z46:=Tryz.sizeOf324
 v46:=Tryz.zeroValue324
 t50:=Tryz.underlying328
 a50:=Tryz.isAgg328
 z50:=Tryz.sizeOf328
 v50:=Tryz.zeroValue328
 t53:=Tryz.underlying23
 a53:=Tryz.isAgg23
 z53:=Tryz.sizeOf23
 v53:=Tryz.zeroValue23
 t55:=Tryz.underlying214
 a55:=Tryz.isAgg214
 z55:=Tryz.sizeOf214
 v55:=Tryz.zeroValue214
 t66:=Tryz.underlying334
 a66:=Tryz.isAgg334
 z66:=Tryz.sizeOf334
 v66:=Tryz.zeroValue334
 t70:=Tryz.underlying338
 a70:=Tryz.isAgg338
 z70:=Tryz.sizeOf338
 v70:=Tryz.zeroValue338
 t76:=Tryz.underlying346
 a76:=Tryz.isAgg346
 z76:=Tryz.sizeOf346
 v76:=Tryz.zeroValue346
 t77:=Tryz.underlying272
 a77:=Tryz.isAgg272
 z77:=Tryz.sizeOf272
 v77:=Tryz.zeroValue272}
end Go.Proofs
namespace Go.Vm
open Go.Sort Go.Proofs Go.Shelf
theorem aEF(W:World)(hg:GlobOk (fun _=>False) W):Rep jR (fun _=>False) W ([]:List Obj).length (jF 0 []):=
 ⟨fun _ _=>rfl,fun id o hg=>by simp[jF,get]at hg,fun id id' o o' b base base' hg=>by simp[jF,get]at hg,fun b hb=>hb.elim,hg⟩
theorem Q6{W w':World}{ι':Inj}{h':Hp}{E':Nat->Prop}(x:Ext jR (jF 0 []) (fun _=>False) W ι' h' E' w'):∃q os',w'=grow (W.drewN q) os':=by
 have hno:∀b,¬Own jR (jF 0 []) b:=fun b ⟨id,o,base,hg,_⟩=>by simp[jF,get]at hg
 refine⟨w'.drawn-W.drawn,w'.heap.extract W.heap.size w'.heap.size,?_⟩;have hh:w'.heap=W.heap++w'.heap.extract W.heap.size w'.heap.size:=by
  apply Array.ext_getElem?;intro i;rw[Array.getElem?_append];split
  ·rename_i hi;exact(x.old i hi (hno i)).1
  ·rename_i hi;rw[Array.getElem?_extract];have hsz:=x.size;split
   ·congr 1;omega
   ·rw[fE];omega
 have hd:=x.drawn;have h1:=x.os;have h2:=x.tape;have h3:=x.output;cases w';cases W;simp only[grow,World.drewN]at*;subst h1;subst h2;subst h3
 congr 1
 omega
section
variable {P:Program} {α:Type} [Inhabited α]
theorem Ta{g:Nat}{enc:α->List Value}{k:Nat}{cf:α->α->Int}{blk off size:Nat}{w:World}(hgl:∀(m:Nat) (os:Array Go.Obj) (dk:Array α),GlobOk (fun _=>False) (sortWorldK enc k w blk off m dk os))
  (h:∀x y:α,ACall P g [.agg ((enc x).map .v),.agg ((enc y).map .v)] [] fun r hs=>r=.v (.int .i64 (cf x y))/\hs=[]):CmpLays P g #[] enc k cf blk off size w:=by
 intro m os dk _ x y;have hgW:=hgl m os dk;generalize sortWorldK enc k w blk off m dk os=W at hgW⊢;obtain⟨_,h2⟩:=(h x y).elim;have one:∀z:α,Rel (fun _=>False) W jR (.agg ((enc z).map .v)) (.agg (enc z).toArray):=fun z=>
  .agg _ _ zx (fun i a b ha hb=>by
   have hb':(enc z)[i]? =some b:=by simpa using hb
   rw[bX,hb']at ha;cases ha;exact .v _)
 have hv:RL (fun _=>False) W jR [.agg ((enc x).map .v),.agg ((enc y).map .v)] #[.agg (enc x).toArray,.agg (enc y).toArray]:=RL.cons (one x) (RL.cons (one y) oZ);rw[Array.append_empty];refine(h2 jR _ W _ (aEF W hgW) hv).mono ?_
 rintro e w' ⟨v,rv,hs',ι',E',rfl,⟨rfl,rfl⟩,_,hr,x⟩
 cases hr;exact⟨rfl,Q6 x⟩
variable {E:Nat->Prop} {w:World} {ι:Inj} {n:Nat} {h:Hp}
theorem GlobOk.none{E:Nat->Prop}{w:World}(h:GlobOk E w):GlobOk (fun _=>False) w:=fun g cs hg=>by
 obtain⟨_,h2,h3⟩:=h g cs hg;exact⟨fun f=>f,h2,h3⟩
theorem Yt{E:Nat->Prop}{w:World}(h:GlobOk E w)(m:Nat)(os:Array Go.Obj):GlobOk E (grow (Sort.ahead w m) os):=fun g cs hg=>by
 obtain⟨h1,h2,h3⟩:=h g cs hg;refine⟨h1,?_,fun j y hy=>?_⟩
 ·rw[size_grow];exact cN h2 (Nat.le_add_right _ _)
 ·rw[cell_of_heap (a:=⟨g,j,Option.none⟩) (heap_grow_old (Sort.ahead w m) os h2)];exact h3 j y hy
theorem aED(r:Rep ι E w n h)(m:Nat)(os:Array Go.Obj):Rep ι E (grow (Sort.ahead w m) os) n h/\Ext ι h E w ι h E (grow (Sort.ahead w m) os):=by
 have hh:∀b,b<w.heap.size->(grow (Sort.ahead w m) os).heap[b]? =w.heap[b]? :=fun b hb=>heap_grow_old (Sort.ahead w m) os hb;have hsz:w.heap.size<=(grow (Sort.ahead w m) os).heap.size:=by rw[size_grow];exact Nat.le_add_right _ _
 have hc:∀a:Addr,a.block<w.heap.size->(grow (Sort.ahead w m) os).cell? a=w.cell? a:=fun a ha=>cell_of_heap (hh _ ha);have hf:∀a:Addr,a.block<w.heap.size->(grow (Sort.ahead w m) os).frozen? a=w.frozen? a:=fun a ha=>by simp only[World.frozen?,hh _ ha]
 have hk:Keeps E w E (grow (Sort.ahead w m) os):=⟨hsz,fun b hb hE=>⟨hh b hb,hE⟩,fun a ha=>by rw[hc a (lt_of_cell ha)];exact ha,fun a ha=>hf a (lt_of_cell ha)⟩
 exact⟨⟨r.fresh,fun id o hg=>(r.obj id o hg).keep hk (fun _ _ h=>h) (fun b base hb=>r.own_E ⟨id,o,base,hg,hb⟩) (fun b base hb=>hh b (own_ne r hg hb)),r.sep,fun b hb=>cN (r.bound b hb) hsz,r.glob.keep hk⟩,
  ⟨rfl,rfl,rfl,hsz,fun _ _ h=>h,fun b hb _=>⟨hh b hb,Iff.rfl⟩,fun _ _ h=>h,fun a ha=>by rw[hc a (lt_of_cell ha)];exact ha,fun a ha=>hf a ha,by show w.drawn<=w.drawn+m;omega⟩⟩
theorem Ip(d:Array Value)(w:World)(b off:Nat)(a:Addr)(h:(w.cell? a).isSome=true):((putRow id w b off d).cell? a).isSome=true:=by
 by_cases hb:a.block=b
 ·subst hb;unfold putRow mapBlock;simp only[World.cell?,gS,if_true]at h⊢;cases hw:w.heap[a.block]? with
  |none=>simp[hw]at h
  |some o=>
   cases o with
   |cells c e fr=>
    simp only[hw,dG,onCells]at h⊢;split at h
    ·simp at h
    ·rename_i hs;simp only[hs];simp only[cK,if_false]at h⊢;rw[gH]at h⊢;obtain⟨v,hv⟩:=h;have hlt:=(eO.1 hv).1;exact⟨_,bL (by simpa[putCells]using hlt)⟩
   |_=>simp[hw]at h
 ·rw[show(putRow id w b off d).cell? a=w.cell? a from cell?_putRow_other id w b off d a (Or.inl hb)];exact h
theorem Kt(d:Array Value)(w:World)(b off:Nat)(a:Addr):(putRow id w b off d).frozen? a=w.frozen? a:=by
 unfold putRow mapBlock World.frozen?;simp only[gS];by_cases hb:b=a.block
 ·subst hb;simp only[if_true];cases w.heap[a.block]? with
  |none=>rfl
  |some o=>cases o<;>rfl
 ·simp[hb]
theorem yL(d:Array Value)(w:World)(b off:Nat):Writes w b (putRow id w b off d):=
 ⟨rfl,rfl,rfl,by simp,fun k hk=>by simp[putRow,mapBlock,gS,Ne.symm hk],fun a ha=>Ip d w b off a ha,fun a=>Kt d w b off a,rfl⟩
theorem aJP{f g k:Nat}{enc:α->List Value}{encA:α->AV}{cf:α->α->Int}(hok:K0 P f=true)(hk:∀x,(enc x).length=k)(henc:∀x,(encA x).cells=(enc x).map .v)
  (hsort:∀(blk off cap:Nat) (d:Array α) (w:World),HoldsK enc k w blk off d->blk<w.heap.size->d.size<4611686018427387904->(∀(m:Nat) (os:Array Go.Obj) (dk:Array α),GlobOk (fun _=>False) (sortWorldK enc k w blk off m dk os))->
   Calls P f #[.slice (some ⟨blk,off,none⟩) d.size cap,.func (.func g) #[] #[]] w fun e w'=>e=.returned (.tuple #[])/\∃d' n os,PermIn 0 d.size d d'/\SortedIn (ltOf cf) 0 d.size d'/\w'=sortWorldK enc k w blk off n d' os)
  (hnone:∀(p:Option Addr) (cap:Nat) (fv:Value) (w:World),Calls P f #[.slice p 0 cap,fv] w fun e w'=>e=.returned (.tuple #[])/\w'=w)
  {d:List α}{len:Nat}(hlen:len=d.length)(hd:d.length<4611686018427387904){K:KT}
  (hK:∀d':List α,d'.Perm d->d'.Pairwise (fun x y=>ltOf cf y x=false)->K (.tup []) [.arr k (d'.map encA)]):
  ACall P f [.os 0 k 0 len,.fn (.func g) [] []] [.arr k (d.map encA)] K:=by
 refine ACall.intro hok fun ι E w vals r hv=>?_;obtain⟨v0,vs,rfl,hv0,hv⟩:=hv.head;obtain⟨v1,vs,e1,hv1,hv2⟩:=hv.head;cases e1;have hvs:vs=[]:=by have:=hv2.nil;simpa using this
 subst hvs;have hfn:v1=.func (.func g) #[] #[]:=by
  cases hv1 with
  |fn _ _ _ F C hF hC _ _=>
   simp only[aI]at hF hC;rw[dA hF.symm,dA hC.symm]
 subst hfn;have hg:get (jF 0 [.arr k (d.map encA)]) 0=some (.arr k (d.map encA)):=rfl;rcases cV d.length with h0|h0
 ·have hd0:d=[]:=dR h0;subst hd0;have hz:∃p cap,v0=.slice p 0 cap:=by
   subst hlen;cases hv0 with
   |osz _ _ _ a=>exact⟨a,0,rfl⟩
   |os _ _ _ _ b base cap hι hc h=>exact⟨_,cap,rfl⟩
  obtain⟨p,cap,rfl⟩:=hz;refine(hnone p cap _ w).mono ?_
  rintro e w' ⟨rfl,rfl⟩
  exact⟨_,.tup [],[.arr k []],ι,E,rfl,hK [] (List.Perm.refl _) List.Pairwise.nil,r,.tup [] #[] rfl (fun i x y hx _=>by simp at hx),Ext.refl⟩
 ·have hpos:0<len:=by omega
  cases hv0 with
  |osz _ _ _ a=>omega
  |os _ _ _ _ b base cap hι hc hcell=>
   have hsz:=G9 r hg;rcases r.obj 0 _ hg with⟨h1,_⟩|⟨b',base',h1,h2,h3,h4,h5⟩
   ·rw[hι]at h1;cases h1
   ·rw[hι]at h1;cases h1;have hbang:∀{l:List α} {i:Nat} (hi:i<l.length),l.toArray[i]! =l[i]:=fun {l i} hi=>by simp[hi]
    have hH:HoldsK enc k w b base d.toArray:=by
     intro t ht;have ht':t<d.toArray.size*k:=by simpa using ht
     have kp:0<k:=by
      rcases cV k with h0|h0
      ·subst h0;simp at ht'
      ·exact h0
     have hi:t/k<d.length:=by
      rw[gT kp];simpa using ht'
     have hc:=Nat.mod_lt t kp;rw[get_flatK _ _ _ _ ht',hbang hi];have hxi:(d.map encA)[t/k]? =some (encA d[t/k]):=by simp[hi]
     have hcl:(enc d[t/k])[t%k]? =some ((enc d[t/k])[t%k]'(by rw[hk];exact hc)):=aE _;have hcc:(encA d[t/k]).cells[t%k]? =some (.v ((enc d[t/k])[t%k]'(by rw[hk];exact hc))):=by rw[henc,bX,hcl];rfl
     obtain⟨u,e1,e2,e3⟩:=h5 _ _ _ _ hxi hcc;have hu:u=(enc d[t/k])[t%k]'(by rw[hk];exact hc):=by cases e3;rfl
     have hoff:base+t/k*k+t%k=base+t:=by
      have:=Nat.div_add_mod t k;rw[gR]at this;omega
     rw[hoff]at e1 e2;refine⟨?_,e2⟩;rw[e1,hu,getElem!_pos (enc d[t/k]) (t%k) (by rw[hk];exact hc)];rfl
    have hgl:∀(m:Nat) (os:Array Go.Obj) (dk:Array α),GlobOk (fun _=>False) (sortWorldK enc k w b base m dk os):=fun m os dk=>by
     have g1:=r.glob.keep ((yL (Go.Sort.flatK enc k dk) w b base).keeps h2);exact(Yt g1 m os).none
    have h:=hsort b base cap d.toArray w hH h3 (by simpa using hd) hgl;rw[show base+0*k=base by omega,hlen,show d.length=d.toArray.size by simp];refine h.mono ?_
    rintro e w' ⟨rfl,d',m,os,hp,hs,rfl⟩
    obtain⟨p1,p2,p3⟩:=hp;have hd':d'.size=d.length:=by simpa using p1
    have hH':=holdsK_sortWorldK_c enc k w b base d.toArray d' m os hH h3 p1;have hperm:d'.toList.Perm d:=by
     have e1:(d'.extract 0 d.toArray.size)=d':=by rw[<-p1];simp
     rw[e1]at p3;simpa using p3
    refine⟨_,.tup [],[.arr k (d'.toList.map encA)],ι,E,rfl,hK _ hperm ?_,?_⟩
    ·rw[dL];intro i j hi hj hij;have:=hs i j (aK _) hij (by simp at hj;simpa[<-hd']using hj);simp at hi hj;rw[getElem!_pos d' i hi,getElem!_pos d' j hj]at this;simpa using this
    · -- the world: drawn on, the row put, blocks laid behind
      have e0:sortWorldK enc k w b base m d' os=grow (Sort.ahead (putRow id w b base (Go.Sort.flatK enc k d')) m) os:=rfl;have ho:ORel E (putRow id w b base (Go.Sort.flatK enc k d')) ι 0 (.arr k (d'.toList.map encA)):=by
       refine .inr ⟨b,base,hι,h2,by simpa using h3,fun i x hx=>?_,fun i x j c hx hc=>?_⟩
       ·rw[bX,bW]at hx;obtain⟨y,_,rfl⟩:=hx;rw[henc,aA,hk]
       ·rw[bX,bW]at hx;obtain⟨y,hy,rfl⟩:=hx;rw[henc,bX,bW]at hc;obtain⟨u,hu,rfl⟩:=hc;have hi:i<d'.size:=by have:=(aP.1 hy).1;simpa using this
        have hj:j<k:=by have:=(aP.1 hu).1;rwa[hk]at this
        have hHp:=holdsK_putRowK enc k w b base d.toArray d' hH p1;have:=HoldsK.cell hHp hi hj;have ey:d'[i]! =y:=by
         rw[getElem!_pos d' i hi];have:d'.toList[i]? =some d'[i]:=by simp[hi]
         rw[this]at hy;exact bB hy
        rw[ey,getElem!_pos (enc y) j (by rw[hk];exact hj)]at this;have eu:(enc y)[j]'(by rw[hk];exact hj)=u:=by
         rw[aE (by rw[hk];exact hj)]at hu;exact bB hu
        rw[eu]at this;exact⟨u,this.1,this.2,.v _⟩
      have hput:=oR (h0:=[]) r (fun id o hg=>by simp[get]at hg) hg hι rfl (yL (Go.Sort.flatK enc k d') w b base) (fun _ _ h=>h) hι (fun _ _=>rfl) (aO _) r.fresh ho rfl;have hgr:=aED hput.1 m os;rw[e0];exact⟨hgr.1,.tup [] #[] rfl (fun i x y hx _=>by simp at hx),hput.2.trans hgr.2⟩
end
end Go.Vm
namespace Go.Proofs.YtgicddadddhonaaGreatDoor
open Go Go.Vm Go.Sort Go.Shelf Go.Proofs
instance:Inhabited Rg:=⟨⟨0,0,by decide,by decide,by decide,by decide⟩⟩
def aMo(r:Rg):List Value:=[.int .u32 r.lo,.int .u32 r.hi]
def aAM(r s:Rg):Int:=aAL r.lo s.lo
theorem ltR(r s:Rg):ltOf aAM r s=decide (r.lo<s.lo):=by
 unfold ltOf aAM aAL;by_cases h1:r.lo<s.lo
 ·simp[h1]
 ·by_cases h2:s.lo<r.lo<;>simp[h1,h2]
theorem aXd:SWO (ltOf aAM) where
 irrefl x:=by rw[ltR];simp
 trans x y z h1 h2:=by rw[ltR]at*;simp at*;omega
 ntrans x y z h1 h2:=by rw[ltR]at*;simp at*;omega
theorem aVU:aKh:=by
 intro d n hn hd K hK;have eg:∀args w,(callFunc 291 args).run Tryz.prog w=.ok (.enter 291 args) w:=enters_of Tryz.func291 zk rfl;refine aJP (k:=2) (enc:=aMo) (encA:=encR) (cf:=aAM) zk (fun _=>rfl) (fun _=>rfl) (fun blk off cap d w hH hb hs hgl=>?_) (fun p cap fv w=>?_) hn zo (fun d' hp hs=>hK d' hp (hs.imp fun h=>?_))
 ·exact AnyQ.slices_SortFunc Tryz.sortR 2 Tryz.isAgg55 Tryz.sizeOf55 aMo (fun _=>rfl) (fun x v hv=>by simp[aMo]at hv;rcases hv with rfl|rfl<;>rfl) aAM aXd 291 #[] blk off cap d w eg
   (Ta hgl fun x y=>c47 x y ⟨rfl,rfl⟩) hH hb hs
 ·exact AnyF.slices_SortFunc_none Tryz.sortR p cap fv w
 ·rw[ltR]at h;simp at h;omega
end Go.Proofs.YtgicddadddhonaaGreatDoor
