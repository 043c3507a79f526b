/- The functions of the seat as the machine takes them: contexts, bodies, contracts out of the code. Printed by gsctx.py. -/
import Derived.Test.YtahhamfngafmcaaGreatDoorProg
import Derived.Test.YtahhamfngafmcaaGreatDoorM17
set_option linter.unusedVariables false
set_option linter.unusedSimpArgs false
set_option maxRecDepth 100000
set_option maxHeartbeats 4000000
namespace Go.Proofs.YtahhamfngafmcaaGreatDoor
open Go Go.Vm
noncomputable def g18:Ctx:={N:=10}
noncomputable def b18:Code:=bdy Tryz.f85
abbrev of18:=@ofC Tryz.prog g18 85 Tryz.f85 b18 Tryz.func85 (by kernel_rfl) (by kernel_rfl) (by kernel_rfl) (by kernel_rfl)
noncomputable def gwZone1:Ctx:={N:=8}
noncomputable def bwZone1:Code:=bdy Tryz.f146
abbrev ofwZone1:=@ofC Tryz.prog gwZone1 146 Tryz.f146 bwZone1 Tryz.func146 (by kernel_rfl) (by kernel_rfl) (by kernel_rfl) (by kernel_rfl)
noncomputable def gwZone:Ctx:={N:=8}
noncomputable def bwZone:Code:=bdy Tryz.f88
abbrev ofwZone:=@ofC Tryz.prog gwZone 88 Tryz.f88 bwZone Tryz.func88 (by kernel_rfl) (by kernel_rfl) (by kernel_rfl) (by kernel_rfl)
noncomputable def gwIdx:Ctx:={N:=25,hints:=at1 2 ([.virt 5 1]) (fun _=>[])}
noncomputable def bwIdx:Code:=bdy Tryz.f145
abbrev ofwIdx:=@ofC Tryz.prog gwIdx 145 Tryz.f145 bwIdx Tryz.func145 (by kernel_rfl) (by kernel_rfl) (by kernel_rfl) (by kernel_rfl)
noncomputable def gwIxD:Ctx:={N:=19}
noncomputable def bwIxD:Code:=bdy Tryz.f179
abbrev ofwIxD:=@ofC Tryz.prog gwIxD 179 Tryz.f179 bwIxD Tryz.func179 (by kernel_rfl) (by kernel_rfl) (by kernel_rfl) (by kernel_rfl)
noncomputable def gwFol1:Ctx:={N:=8}
noncomputable def bwFol1:Code:=bdy Tryz.f189
abbrev ofwFol1:=@ofC Tryz.prog gwFol1 189 Tryz.f189 bwFol1 Tryz.func189 (by kernel_rfl) (by kernel_rfl) (by kernel_rfl) (by kernel_rfl)
noncomputable def gwG1:Ctx:={N:=14,np:=2,out:=true}
noncomputable def bwG1:Code:=bdy Tryz.f83
abbrev ofwG1:=@ofC Tryz.prog gwG1 83 Tryz.f83 bwG1 Tryz.func83 (by kernel_rfl) (by kernel_rfl) (by kernel_rfl) (by kernel_rfl)
noncomputable def gwG2:Ctx:={N:=37,np:=4,own:=at1 83 (true) (fun _=>false),plan:=at1 10 (some (ln [1,3,5,7,9,11,13,14])) (fun _=>none),hints:=at1 0 ([.renewI 2 0]) (fun _=>[]),out:=true}
noncomputable def bwG2:Code:=bdy Tryz.f87
abbrev ofwG2:=@ofC Tryz.prog gwG2 87 Tryz.f87 bwG2 Tryz.func87 (by kernel_rfl) (by kernel_rfl) (by kernel_rfl) (by kernel_rfl)
noncomputable def gwFol:Ctx:={N:=77,np:=7,own:=at1 144 (true) (at1 87 (true) (fun _=>false)),plan:=at1 4 (some (ln [1,3,5,7,9,10,13])) (at1 6 (some (ln [1,3,5,7,9,10,13])) (at1 8 (some (ln [1,3,5,7,9,10])) (at1 9 (some (ln [1,3,5,7,9,10])) (at1 16 (some (ln [1,3,5,7,9,10,13])) (at1 20 (some (ln [1,3,5,7,9,10])) (fun _=>none)))))),hints:=at1 0 ([.renewI 5 0]) (fun _=>[]),out:=true,lend:=at1 179 (true) (fun _=>false)}
noncomputable def bwFol:Code:=bdy Tryz.f144
abbrev ofwFol:=@ofC Tryz.prog gwFol 144 Tryz.f144 bwFol Tryz.func144 (by kernel_rfl) (by kernel_rfl) (by kernel_rfl) (by kernel_rfl)
noncomputable def gwStart:Ctx:={N:=15,np:=4,own:=at1 144 (true) (fun _=>false),out:=true}
noncomputable def bwStart:Code:=bdy Tryz.f86
abbrev ofwStart:=@ofC Tryz.prog gwStart 86 Tryz.f86 bwStart Tryz.func86 (by kernel_rfl) (by kernel_rfl) (by kernel_rfl) (by kernel_rfl)
noncomputable def gwGrp:Ctx:={N:=40,own:=at1 86 (true) (at1 83 (true) (fun _=>false)),hints:=at1 2 ([.virtB 8 0 2]) (fun _=>[])}
noncomputable def bwGrp:Code:=bdy Tryz.f46
abbrev ofwGrp:=@ofC Tryz.prog gwGrp 46 Tryz.f46 bwGrp Tryz.func46 (by kernel_rfl) (by kernel_rfl) (by kernel_rfl) (by kernel_rfl)
noncomputable def gwGroup:Ctx:={N:=22}
noncomputable def bwGroup:Code:=bdy Tryz.f13
abbrev ofwGroup:=@ofC Tryz.prog gwGroup 13 Tryz.f13 bwGroup Tryz.func13 (by kernel_rfl) (by kernel_rfl) (by kernel_rfl) (by kernel_rfl)
noncomputable def gwS1:Ctx:={N:=8,np:=2,out:=true}
noncomputable def bwS1:Code:=bdy Tryz.f93
abbrev ofwS1:=@ofC Tryz.prog gwS1 93 Tryz.f93 bwS1 Tryz.func93 (by kernel_rfl) (by kernel_rfl) (by kernel_rfl) (by kernel_rfl)
noncomputable def gwFos:Ctx:={N:=77,np:=5,own:=at1 144 (true) (at1 93 (true) (fun _=>false)),plan:=at1 4 (some (ln [1,3,5,7,9,10,13])) (at1 6 (some (ln [1,3,5,7,9,10,13])) (at1 8 (some (ln [1,3,5,7,9,10])) (at1 9 (some (ln [1,3,5,7,9,10])) (at1 16 (some (ln [1,3,5,7,9,10,13])) (at1 20 (some (ln [1,3,5,7,9,10])) (fun _=>none)))))),hints:=at1 0 ([.renewI 3 0]) (fun _=>[]),out:=true,lend:=at1 179 (true) (fun _=>false)}
noncomputable def bwFos:Code:=bdy Tryz.f144
abbrev ofwFos:=@ofC Tryz.prog gwFos 144 Tryz.f144 bwFos Tryz.func144 (by kernel_rfl) (by kernel_rfl) (by kernel_rfl) (by kernel_rfl)
noncomputable def gwStS:Ctx:={N:=15,np:=2,own:=at1 144 (true) (fun _=>false),out:=true}
noncomputable def bwStS:Code:=bdy Tryz.f86
abbrev ofwStS:=@ofC Tryz.prog gwStS 86 Tryz.f86 bwStS Tryz.func86 (by kernel_rfl) (by kernel_rfl) (by kernel_rfl) (by kernel_rfl)
noncomputable def gwSvc:Ctx:={N:=64,own:=at1 86 (true) (fun _=>false),plan:=at1 14 (some (.one 1 true (.alt 0 (.one 2 false (.one 3 false (.one 4 true (.one 5 true (.one 6 true (.one 7 true (.one 8 true (.done)))))))) (.alt 2 (.one 0 false (.one 3 false (.one 4 true (.one 5 true (.one 6 true (.one 7 true (.one 8 true (.done)))))))) (.stop))))) (fun _=>none),hints:=at1 4 ([.virtB 6 0 7]) (at1 8 ([.freezeB 6,.asL 8]) (fun _=>[]))}
noncomputable def bwSvc:Code:=bdy Tryz.f50
abbrev ofwSvc:=@ofC Tryz.prog gwSvc 50 Tryz.f50 bwSvc Tryz.func50 (by kernel_rfl) (by kernel_rfl) (by kernel_rfl) (by kernel_rfl)
def nmLB(b:UInt8):Bool:=Nat.ble 97 b.toNat&&Nat.ble b.toNat 122
def nmCB(b:UInt8):Bool:=nmLB b||(Nat.ble 48 b.toNat&&Nat.ble b.toNat 57)||Nat.beq b.toNat 45||Nat.beq b.toNat 95
def nmChk(l:List UInt8):Bool:=match l with
 |[]=>false
 |a::r=>nmLB a&&(r.all nmCB&&(Nat.ble r.length 23&& !(l==[97,110,121])))
theorem nmLB_spec{b:UInt8}(h:nmLB b=true):nmL (b.toNat:Int):=by
 simp only[nmLB,Bool.and_eq_true]at h
 have h1:=Nat.le_of_ble_eq_true h.1;have h2:=Nat.le_of_ble_eq_true h.2
 unfold nmL;omega
theorem nmCB_spec{b:UInt8}(h:nmCB b=true):nmC (b.toNat:Int):=by
 simp only[nmCB,Bool.or_eq_true,Bool.and_eq_true]at h
 unfold nmC
 rcases h with((h|⟨h1,h2⟩)|h)|h
 ·have:=nmLB_spec h;unfold nmL at this;omega
 ·have h1:=Nat.le_of_ble_eq_true h1;have h2:=Nat.le_of_ble_eq_true h2;omega
 ·have:=Nat.eq_of_beq_eq_true h;omega
 ·have:=Nat.eq_of_beq_eq_true h;omega
theorem nameOk_lit(l:List UInt8)(h:nmChk l=true):nameOk ⟨⟨l⟩⟩:=by
 cases l with
 |nil=>cases h
 |cons a r=>
  simp only[nmChk,Bool.and_eq_true,List.all_eq_true,Bool.not_eq_true']at h
  obtain⟨h1,h2,h3,h4⟩:=h
  have h3:=Nat.le_of_ble_eq_true h3
  have hget:∀(i:Nat) b,(⟨⟨a::r⟩⟩:ByteArray)[i]? =some b->(a::r)[i]? =some b:=by
   intro i b hb
   by_cases h:i<(⟨⟨a::r⟩⟩:ByteArray).size
   ·rw[getElem?_pos _ i h]at hb
    have h':i<(a::r).length:=h
    rw[List.getElem?_eq_getElem h']
    exact hb
   ·rw[getElem?_neg _ i h]at hb;cases hb
  refine⟨?_,?_,?_,fun b hb=>?_,fun i b hb=>?_⟩
  ·rw[ByteArray.toList_eq,ByteArray.toList_eq];rfl
  ·show(((a::r).length:Nat):Int)<=24
   simp;omega
  ·rw[ByteArray.toList_eq,ByteArray.toList_eq]
   exact h4
  ·have:=hget 0 b hb
   simp at this;subst this
   exact nmLB_spec h1
  ·have:=hget i b hb
   cases i with
   |zero=>simp at this;subst this;exact nmCB_spec (by simp[nmCB,h1])
   |succ i=>exact nmCB_spec (h2 b (List.mem_of_getElem? (by simpa using this)))
structure GPe (n i:Nat) (e:Ed):Prop where
 name:e.name=enL.getD i default
 d0:0<=e.dev
 d1:e.dev<n
 zone:e.zone∈zoL
 pf:(e.pl=false/\e.pf=subL.getD i noPf)\/(e.pl=true/\e.pf.addr=0/\e.pf.bits∈[24,23,25,22,26,32,30])
structure GPla (t:Tp):Prop where
 d1:1<=t.devs.length
 d6:t.devs.length<=6
 dv:∀(i:Nat) d,t.devs[i]? =some d->GDv i d
 l9:t.links.length<=8
 lk:∀l,l∈t.links->GLk t.devs.length l
 e5:t.edges.length<=5
 ed:∀(i:Nat) e,t.edges[i]? =some e->GPe t.devs.length i e
 pools:t.pools=[pool1]\/t.pools=[pool2]\/t.pools=[pool1,pool2]
 tol:t.tol∈[0,1,0,1,2]
theorem sEq_data(a b:ByteArray):sEq a b=(a.data.toList==b.data.toList):=by rw[sEq,ByteArray.toList_eq,ByteArray.toList_eq]
theorem nameOk_data{s:ByteArray}(h:nmChk s.data.toList=true):nameOk s:=by
 obtain⟨⟨l⟩⟩:=s
 exact nameOk_lit l h
theorem rn_ok{i:Nat}(h:i<6):nameOk (rnL.getD i default):=nameOk_data (by
 have:∀i:Fin 6,nmChk (rnL.getD i.val default).data.toList=true:=by decide
 exact this ⟨i,h⟩)
theorem rn_ne{i j:Nat}(h:i<6)(hj:j<i):sEq (rnL.getD j default) (rnL.getD i default)=false:=by
 have:∀i j:Fin 6,j.val<i.val->((rnL.getD j.val default).data.toList==(rnL.getD i.val default).data.toList)=false:=by decide
 rw[sEq_data];exact this ⟨i,h⟩ ⟨j,by omega⟩ hj
theorem en_ok{i:Nat}(h:i<5):nameOk (enL.getD i default):=nameOk_data (by
 have:∀i:Fin 5,nmChk (enL.getD i.val default).data.toList=true:=by decide
 exact this ⟨i,h⟩)
theorem en_ne{i j:Nat}(h:i<5)(hj:j<i):sEq (enL.getD j default) (enL.getD i default)=false:=by
 have:∀i j:Fin 5,j.val<i.val->((enL.getD j.val default).data.toList==(enL.getD i.val default).data.toList)=false:=by decide
 rw[sEq_data];exact this ⟨i,h⟩ ⟨j,by omega⟩ hj
theorem sEq_refl(a:ByteArray):sEq a a=true:=by rw[sEq_data];simp
theorem zo_ok{s:ByteArray}(h:s∈zoL):nameOk s:=nameOk_data (by
 have:∀s,s∈zoL->nmChk s.data.toList=true:=by
  intro s hs
  simp only[zoL,List.mem_cons,List.not_mem_nil,or_false]at hs
  rcases hs with rfl|rfl|rfl<;>decide
 exact this s h)
theorem cl_ok{s:ByteArray}(h:s∈clL):sEq s ⟨#[]⟩=true\/nameOk s:=by
 simp only[clL,List.mem_cons,List.not_mem_nil,or_false]at h
 rcases h with rfl|rfl|rfl
 ·exact .inl (sEq_refl _)
 ·exact .inr (nameOk_data (by decide))
 ·exact .inr (nameOk_data (by decide))
theorem sub_ok{i:Nat}(h:i<5):(subL.getD i noPf).okP/\1<=(subL.getD i noPf).bits:=by
 have:∀i:Fin 5,(subL.getD i.val noPf).okP/\1<=(subL.getD i.val noPf).bits:=by decide
 exact this ⟨i,h⟩
theorem sub_apart{i j:Nat}(h:i<5)(hj:j<i):(subL.getD i noPf).meet (subL.getD j noPf)=false:=by
 have:∀i j:Fin 5,j.val<i.val->(subL.getD i.val noPf).meet (subL.getD j.val noPf)=false:=by decide
 exact this ⟨i,h⟩ ⟨j,by omega⟩ hj
theorem plan_bits{b:Int}(h:b∈[(24:Int),23,25,22,26,32,30]):22<=b/\b<=32:=by
 simp only[List.mem_cons,List.not_mem_nil,or_false]at h
 omega
theorem topOk_pla{t:Tp}(g:GPla t):TopOk t:=by
 have hd6:=g.d6;have he5:=g.e5;have hl9:=g.l9
 have htol:=g.tol
 simp only[List.mem_cons,List.not_mem_nil,or_false]at htol
 refine⟨g.d1,by omega,by omega,by omega,by rcases g.pools with h|h|h<;>rw[h]<;>decide,by omega,by omega,fun i d hi=>?_,fun i l hi=>?_,fun i e hi=>?_,fun i e hi j o hj ho=>?_,fun i p hi=>?_⟩
 ·have hlt:=(List.getElem?_eq_some_iff.1 hi).1
  obtain⟨h1,h2,h3⟩:=g.dv i d hi
  simp only[List.mem_cons,List.not_mem_nil,or_false]at h2
  refine⟨⟨by rw[h1];exact rn_ok (by omega),by omega,by omega,cl_ok h3⟩,?_⟩
  refine firstIx_at hi (sEq_refl _) fun j y hj hy=>?_
  rw[(g.dv j y hy).name,h1]
  exact rn_ne (by omega) hj
 ·obtain⟨h1,h2,h3,h4⟩:=g.lk l (List.mem_of_getElem? hi)
  simp only[List.mem_cons,List.not_mem_nil,or_false]at h4
  exact⟨h1,h2,h3,by omega,by omega⟩
 ·have hlt:=(List.getElem?_eq_some_iff.1 hi).1
  obtain⟨h1,h2,h3,h4,h5⟩:=g.ed i e hi
  refine⟨⟨by rw[h1];exact en_ok (by omega),zo_ok h4,h2,h3,?_⟩,?_⟩
  ·rcases h5 with⟨p1,p2⟩|⟨p1,p2,p3⟩
   ·have:=sub_ok (i:=i) (by omega)
    rw[p2];exact⟨this.2,this.1,.inl p1⟩
   ·have:=plan_bits p3
    refine⟨by omega,⟨by omega,by omega,by rw[p2];exact Int.zero_emod _⟩,.inr p2⟩
  ·refine firstIx_at hi (sEq_refl _) fun j y hj hy=>?_
   rw[(g.ed j y hy).name,h1]
   exact en_ne (by omega) hj
 ·rintro⟨q1,q2,q3⟩
  have hlt:=(List.getElem?_eq_some_iff.1 hi).1
  rcases(g.ed i e hi).pf with⟨_,p2⟩|⟨p1,_⟩
  ·rcases(g.ed j o ho).pf with⟨_,r2⟩|⟨r1,_⟩
   ·rw[p2,r2,sub_apart (by omega) hj]at q3;cases q3
   ·rw[r1]at q2;cases q2
  ·rw[p1]at q1;cases q1
 ·rcases g.pools with h|h|h<;>rw[h]at hi⊢
  ·match i,hi with
   |0,hi=>simp at hi;subst hi;exact⟨by decide,fun j q hj=>absurd hj (Nat.not_lt_zero _)⟩
   |i+1,hi=>simp at hi
  ·match i,hi with
   |0,hi=>simp at hi;subst hi;exact⟨by decide,fun j q hj=>absurd hj (Nat.not_lt_zero _)⟩
   |i+1,hi=>simp at hi
  ·match i,hi with
   |0,hi=>simp at hi;subst hi;exact⟨by decide,fun j q hj=>absurd hj (Nat.not_lt_zero _)⟩
   |1,hi=>
    simp at hi;subst hi
    refine⟨by decide,fun j q hj hq=>?_⟩
    have:j=0:=by omega
    subst this
    simp at hq;subst hq
    decide
   |i+2,hi=>simp at hi
theorem sEq_eq{a b:ByteArray}(h:sEq a b=true):a=b:=by
 rw[sEq_data]at h
 have h:=of_decide_eq_true (by simpa using h:decide (a.data.toList=b.data.toList)=true)
 exact ByteArray.ext (Array.ext' h)
def findD(l:List Df)(s:ByteArray):Option Nat:=l.findIdx? fun d=>sEq d.name s
theorem findD_some{l:List Df}{s:ByteArray}{n:Nat}(h:findD l s=some n):∃d,l[n]? =some d/\d.name=s/\n<l.length:=by
 unfold findD at h
 rw[List.findIdx?_eq_some_iff_getElem]at h
 obtain⟨h1,h2,_⟩:=h
 exact⟨_,List.getElem?_eq_getElem h1,sEq_eq h2,h1⟩
theorem firstIx_find(l:List Df)(s:ByteArray):firstIx (fun d=>sEq d.name s) l=match findD l s with
  |some n=>(n:Int)
  |none=> -1:=rfl
section
variable {S:Type} (v:It->S->Int×S)
def folI(rec:ByteArray->List Nat->S->Int×List Nat×S):List It->List Nat->S->Int×List Nat×S
 |[],d,s=>(0,d,s)
 |x::r,d,s=>
  let q:=if x.kind=3 then rec x.name d s else((v x s).1,d,(v x s).2)
  if q.1=0 then folI rec r q.2.1 q.2.2 else q
def fol(l:List Df):Nat->List Nat->ByteArray->List Nat->S->Int×List Nat×S
 |0,_,_,d,s=>(8,d,s)
 |k+1,p,nm,d,s=>match findD l nm with
  |none=>(5,d,s)
  |some n=>if n∈p then(8,d,s)else if n∈d then(0,d,s)else
   let q:=folI v (fol l k (p++[n])) (((l[n]?).map (·.items)).getD []) d s
   if q.1=0 then(0,q.2.1++[n],q.2.2)else q
theorem folI_nil(rec:ByteArray->List Nat->S->Int×List Nat×S)(d:List Nat)(s:S):folI v rec [] d s=(0,d,s):=rfl
theorem folI_cons(rec:ByteArray->List Nat->S->Int×List Nat×S)(x:It)(r:List It)(d:List Nat)(s:S):folI v rec (x::r) d s=
  if(if x.kind=3 then rec x.name d s else((v x s).1,d,(v x s).2)).1=0 then folI v rec r (if x.kind=3 then rec x.name d s else((v x s).1,d,(v x s).2)).2.1 (if x.kind=3 then rec x.name d s else((v x s).1,d,(v x s).2)).2.2
  else(if x.kind=3 then rec x.name d s else((v x s).1,d,(v x s).2)):=rfl
end
open Classical in
noncomputable def nameM(l:List Df)(p:List Nat):Value->Option AV:=fun k=>if ∃n d,n∈p/\l[n]? =some d/\k=.string d.name then some (.sb true)else none
def Firsts(l:List Df)(p:List Nat):Prop:=∀n,n∈p->∀d,l[n]? =some d->findD l d.name=some n
theorem Firsts.nil{l:List Df}:Firsts l []:=fun n h=>by cases h
theorem Firsts.snoc{l:List Df}{p:List Nat}{s:ByteArray}{n:Nat}(h:Firsts l p)(hn:findD l s=some n):Firsts l (p++[n]):=fun m hm d hd=>by
 rcases List.mem_append.1 hm with hm|hm
 ·exact h m hm d hd
 ·rw[List.mem_singleton.1 hm]at hd⊢
  obtain⟨d',h1,h2,_⟩:=findD_some hn
  rw[hd]at h1;cases h1
  rw[h2];exact hn
theorem nameM_in{l:List Df}{p:List Nat}{s:ByteArray}{n:Nat}(hn:findD l s=some n)(h:n∈p):nameM l p (.string s)=some (.sb true):=by
 obtain⟨d,h1,h2,_⟩:=findD_some hn
 rw[nameM,if_pos ⟨n,d,h,h1,by rw[h2]⟩]
theorem nameM_out{l:List Df}{p:List Nat}{s:ByteArray}{n:Nat}(hf:Firsts l p)(hn:findD l s=some n)(h:n∉p):nameM l p (.string s)=none:=by
 rw[nameM,if_neg]
 rintro⟨m,d,h1,h2,h3⟩
 have e:s=d.name:=by simpa using h3
 have:=hf m h1 d h2
 rw[<-e,hn]at this
 cases this
 exact h h1
theorem nameM_nil(l:List Df):(fun _=>none)=nameM l []:=by
 funext k
 rw[nameM,if_neg]
 rintro⟨n,d,h,_⟩;cases h
theorem updM_name{l:List Df}{p:List Nat}{s:ByteArray}{n:Nat}(hn:findD l s=some n):nameM l (p++[n])=updM (nameM l p) (.string s) (.sb true):=by
 obtain⟨d,h1,h2,_⟩:=findD_some hn
 funext k
 unfold updM
 split
 ·rename_i e
  rw[e,nameM_in hn (by simp)]
 ·rename_i e
  unfold nameM
  have:(∃m d,m∈p++[n]/\l[m]? =some d/\k=.string d.name)↔∃m d,m∈p/\l[m]? =some d/\k=.string d.name:=by
   constructor
   ·rintro⟨m,d',g1,g2,g3⟩
    rcases List.mem_append.1 g1 with g1|g1
    ·exact⟨m,d',g1,g2,g3⟩
    ·rw[List.mem_singleton.1 g1,h1]at g2;cases g2
     exact absurd (g3.trans (by rw[h2])) e
   ·rintro⟨m,d',g1,g2,g3⟩
    exact⟨m,d',List.mem_append_left _ g1,g2,g3⟩
  by_cases hx:∃m d,m∈p/\l[m]? =some d/\k=.string d.name
  ·rw[if_pos hx,if_pos (this.2 hx)]
  ·rw[if_neg hx,if_neg (fun h=>hx (this.1 h))]
theorem delM_name{l:List Df}{p:List Nat}{s:ByteArray}{n:Nat}(hf:Firsts l p)(hn:findD l s=some n)(h:n∉p):nameM l p=delM (nameM l (p++[n])) (.string s):=by
 funext k
 unfold delM
 split
 ·rename_i e
  rw[e,nameM_out hf hn h]
 ·rename_i e
  rw[updM_name hn,updM,if_neg e]
structure Fine (l:List Df) (p d:List Nat):Prop where
 pn:p.Nodup
 dn:d.Nodup
 pf:Firsts l p
 df:Firsts l d
 pl:∀n,n∈p->n<l.length
 dl:∀n,n∈d->n<l.length
 dj:∀n,n∈p->n∉d
theorem Fine.push{l:List Df}{p d:List Nat}{s:ByteArray}{n:Nat}(h:Fine l p d)(hn:findD l s=some n)(hp:n∉p)(hd:n∉d):Fine l (p++[n]) d:=
 ⟨List.nodup_append.2 ⟨h.pn,by simp,fun a ha b hb e=>by rw[List.mem_singleton.1 hb]at e;exact hp (e▸ha)⟩,h.dn,h.pf.snoc hn,h.df,fun m hm=>by
  rcases List.mem_append.1 hm with hm|hm
  ·exact h.pl m hm
  ·rw[List.mem_singleton.1 hm];exact(findD_some hn).choose_spec.2.2,h.dl,fun m hm=>by
  rcases List.mem_append.1 hm with hm|hm
  ·exact h.dj m hm
  ·rw[List.mem_singleton.1 hm];exact hd⟩
theorem Fine.pop{l:List Df}{p d:List Nat}{s:ByteArray}{n:Nat}(h:Fine l (p++[n]) d)(hn:findD l s=some n):Fine l p (d++[n]):=by
 have hnd:n∉d:=h.dj n (by simp)
 have hp:=List.nodup_append.1 h.pn
 exact⟨hp.1,List.nodup_append.2 ⟨h.dn,by simp,fun a ha b hb e=>by rw[List.mem_singleton.1 hb]at e;exact hnd (e▸ha)⟩,fun m hm=>h.pf m (List.mem_append_left _ hm),h.df.snoc hn,
  fun m hm=>h.pl m (List.mem_append_left _ hm),fun m hm=>by
   rcases List.mem_append.1 hm with hm|hm
   ·exact h.dl m hm
   ·rw[List.mem_singleton.1 hm];exact h.pl n (by simp),fun m hm hmd=>by
   rcases List.mem_append.1 hmd with hmd|hmd
   ·exact h.dj m (List.mem_append_left _ hm) hmd
   ·exact hp.2.2 m hm n (by simp) (List.mem_singleton.1 hmd)⟩
theorem nodupLe{l:List Nat}{m:Nat}(h:l.Nodup)(hb:∀x,x∈l->x<m):l.length<=m:=by
 have:=nodup_sub (l:=l.map fun n:Nat=>(n:Int)) (m:=(List.range m).map fun n:Nat=>(n:Int)) (by
  unfold List.Nodup at*
  rw[List.pairwise_map]
  exact h.imp fun hab e=>hab (by omega)) (fun x hx=>by
  obtain⟨n,hn,rfl⟩:=List.mem_map.1 hx
  exact List.mem_map.2 ⟨n,List.mem_range.2 (hb n hn),rfl⟩)
 simpa using this
theorem Fine.small{l:List Df}{p d:List Nat}(h:Fine l p d):d.length+p.length<=l.length:=by
 have h1:(d++p).Nodup:=List.nodup_append.2 ⟨h.dn,h.pn,fun a ha b hb e=>h.dj b hb (e▸ha)⟩
 have h2:∀n,n∈d++p->n<l.length:=fun n hn=>by
  rcases List.mem_append.1 hn with hn|hn
  ·exact h.dl n hn
  ·exact h.pl n hn
 have h3:=nodupLe h1 h2
 rw[List.length_append]at h3
 exact h3
section
variable {S:Type} (v:It->S->Int×S) (sz:S->Nat) (hv:∀x s,(v x s).1=0->sz (v x s).2<=sz s+1000)
structure Fed (l:List Df) (p d:List Nat) (s:S) (d':List Nat) (s':S) (c:Nat):Prop where
 fine:Fine l p d'
 le:d.length<=d'.length
 size:sz s'+1000000*d.length<=sz s+1000000*d'.length+c
include hv
theorem folI_fed{l:List Df}{p:List Nat}{rec:ByteArray->List Nat->S->Int×List Nat×S}(hrec:∀nm d s,Fine l p d->(rec nm d s).1=0->Fed sz l p d s (rec nm d s).2.1 (rec nm d s).2.2 0):
  ∀(its:List It) (d:List Nat) (s:S),Fine l p d->(folI v rec its d s).1=0->Fed sz l p d s (folI v rec its d s).2.1 (folI v rec its d s).2.2 (1000*its.length)
 |[],d,s,hf,_=>⟨hf,Nat.le_refl _,by simp[folI]⟩
 |x::r,d,s,hf,h=>by
  rw[folI_cons]at h⊢
  have hq:(if x.kind=3 then rec x.name d s else((v x s).1,d,(v x s).2)).1=0->Fed sz l p d s (if x.kind=3 then rec x.name d s else((v x s).1,d,(v x s).2)).2.1 (if x.kind=3 then rec x.name d s else((v x s).1,d,(v x s).2)).2.2 1000:=by
   by_cases hk:x.kind=3
   ·rw[if_pos hk]
    intro h0
    have:=hrec x.name d s hf h0
    exact⟨this.fine,this.le,by have:=this.size;omega⟩
   ·rw[if_neg hk]
    intro h0
    exact⟨hf,Nat.le_refl _,by have:=hv x s h0;simp only;omega⟩
  generalize (if x.kind=3 then rec x.name d s else((v x s).1,d,(v x s).2))=q at*
  by_cases h0:q.1=0
  ·rw[if_pos h0]at h⊢
   have hq:=hq h0
   have h2:=folI_fed hrec r q.2.1 q.2.2 hq.fine h
   exact⟨h2.fine,Nat.le_trans hq.le h2.le,by have:=hq.size;have:=h2.size;rw[List.length_cons];omega⟩
  ·rw[if_neg h0]at h;exact absurd h h0
theorem fol_fed(l:List Df)(hit:∀d,d∈l->d.items.length<=999):∀(k:Nat) (p:List Nat) (nm:ByteArray) (d:List Nat) (s:S),Fine l p d->(fol v l k p nm d s).1=0->
  Fed sz l p d s (fol v l k p nm d s).2.1 (fol v l k p nm d s).2.2 0
 |0,p,nm,d,s,hf,h=>by simp[fol]at h
 |k+1,p,nm,d,s,hf,h=>by
  unfold fol at h⊢
  cases hn:findD l nm with
  |none=>simp[hn]at h
  |some n=>
   simp only[hn]at h⊢
   split at h
   ·simp at h
   rename_i hp
   rw[if_neg hp]
   split at h
   ·rename_i hd
    rw[if_pos hd]
    exact⟨hf,Nat.le_refl _,by simp⟩
   rename_i hd
   rw[if_neg hd]
   obtain⟨df,hdf,_⟩:=findD_some hn
   simp only[hdf,Option.map_some,Option.getD_some]at h⊢
   have hpush:=hf.push hn hp hd
   split at h
   ·rename_i h0
    rw[if_pos h0]
    have h1:=folI_fed v sz hv (fun nm d s hf h=>fol_fed l hit k (p++[n]) nm d s hf h) df.items d s hpush h0
    have hlen:=hit df (List.mem_of_getElem? hdf)
    exact⟨h1.fine.pop hn,by rw[List.length_append];have:=h1.le;omega,by have:=h1.size;simp only[List.length_append,List.length_singleton];omega⟩
   ·rename_i h0;exact absurd h h0
end
def IsLen(x n:Nat):Prop:=x<2^n/\(n=0\/2^(n-1)<=x)
instance (x n:Nat):Decidable (IsLen x n):=by unfold IsLen;infer_instance
theorem isLen_shift{x n s:Nat}(h:IsLen (x/2^s) n)(hx:2^s<=x):IsLen x (n+s):=by
 obtain⟨h1,h2⟩:=h
 have hp:=Nat.two_pow_pos s
 have hn:n≠0:=by
  rintro rfl
  have:=(Nat.div_lt_iff_lt_mul hp).1 h1
  omega
 refine⟨by rw[Nat.pow_add];exact(Nat.div_lt_iff_lt_mul hp).1 h1,.inr ?_⟩
 rw[show n+s-1=(n-1)+s by omega,Nat.pow_add]
 exact(Nat.le_div_iff_mul_le hp).1 (h2.resolve_left hn)
theorem wr_u8{e:Int}{K:Int->Prop}(j:Nat)(h:e=j)(hj:j<256)(hk:K j):Wr .u8 e K:=by
 subst h
 refine Wr.intro ?_ hk
 simp only[IntKind.wrap,IntKind.signed,IntKind.bits];simp;omega
def chkTab(s:ByteArray):Bool:=Nat.beq s.data.size 256&&(List.range 256).all fun j=>match s.data[j]? with
 |some b=>decide (IsLen j b.toNat)
 |none=>false
theorem tab_in{s:ByteArray}{j:Nat}{K:UInt8->Prop}(hc:chkTab s=true)(hj:j<256)(hk:∀b:UInt8,IsLen j b.toNat->b.toNat<256->K b):In (j:Int) s.size fun j'=>∃b,s[j']? =some b/\K b:=by
 simp only[chkTab,Bool.and_eq_true,List.all_eq_true,List.mem_range]at hc
 obtain⟨h1,h2⟩:=hc
 have h1:s.size=256:=Nat.eq_of_beq_eq_true h1
 have hlt:j<s.size:=by omega
 refine In.intro j rfl hlt ⟨s[j],by simp[hlt],hk _ ?_ (UInt8.toNat_lt _)⟩
 have:=h2 j hj
 have e:s.data[j]? =some s[j]:=by rw[Array.getElem?_eq_getElem (show j<s.data.size from hlt)];rfl
 rw[e]at this
 simpa using this
structure Pl where
 a:Int
 b:Int
 eg:Bool
 allow:List Bx
structure PlIn (t:Tp) (x:Pl):Prop where
 a0:0<=x.a
 a1:x.a<t.edges.length
 b0:0<=x.b
 b1:x.b<t.edges.length
 len:x.allow.length<=4096
theorem PlIn.eg{t:Tp}{x:Pl}(h:PlIn t x)(b:Bool):PlIn t {x with eg:=b}:=⟨h.a0,h.a1,h.b0,h.b1,h.len⟩
end Go.Proofs.YtahhamfngafmcaaGreatDoor
