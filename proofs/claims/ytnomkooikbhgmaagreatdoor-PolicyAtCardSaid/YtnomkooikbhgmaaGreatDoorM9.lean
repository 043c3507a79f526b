/- Lemmas. -/
import Derived.OpenShut
import Derived.Test.YtnomkooikbhgmaaGreatDoorProg
import Derived.Laws.StructEq
import Derived.Test.YtnomkooikbhgmaaGreatDoorM8
set_option linter.unusedVariables false
set_option linter.unusedSimpArgs false
set_option maxRecDepth 100000
set_option maxHeartbeats 4000000
noncomputable section
namespace Go.Vm
open Go.ChangeShapes Go.WideShapes
def Ty(P:Program):Nat->TypeId->AV->Prop
 |0,_,_=>False
 |n+1,t,x=>match P.underlying t with
  |some .bool=>∃b,x=.sb b
  |some (.int k)=>∃i,x=.v (.int k i)/\k.min<=i/\i<=k.max
  |some .string=>∃s,x=.v (.string s)/\s.size<=maxLen
  |some (.slice e)=>∃xs,x=.lst xs/\xs.length<=maxLen/\∀y,y∈xs->Ty P n e y
  |some (.struct fs)=>∃ys:List AV,ys.length=fs.size/\x=.agg (ys.flatMap AV.cells)/\∀(i:Nat) f y,fs[i]? =some f->ys[i]? =some y->Ty P n f.type y
  |some (.array m e)=>∃ys:List AV,ys.length=m/\x=.agg (ys.flatMap AV.cells)/\∀y,y∈ys->Ty P n e y
  |_=>False
def fieldsLie(P:Program)(tot:Nat):Nat->List Field->Bool
 |off,[]=>decide (off=tot)
 |off,f::fs=>decide (f.offset=off)&&fieldsLie P tot (off+P.cellsOf f.type) fs
def NoE:Nat->Prop:=fun _=>False
section
variable {H:Type} {enc:TypeId×Value->H} {P:Program} {w:World} {held:Bool}
theorem RL.app{E:Nat->Prop}{ι:Inj}{xs ys:List AV}{qs bs:List Value}(h1:RL E w ι xs qs.toArray)(h2:RL E w ι ys bs.toArray):RL E w ι (xs++ys) (qs++bs).toArray:=by
 have l1:xs.length=qs.length:=by simpa using h1.1
 have l2:ys.length=bs.length:=by simpa using h2.1
 refine⟨by simp[l1,l2],fun i x y hx hy=>?_⟩;have hy:(qs++bs)[i]? =some y:=by simpa using hy
 rcases aF i xs.length with hi|hi
 ·rw[bD hi]at hx;rw[bD zo]at hy;exact h1.2 i x y hx (by simpa using hy)
 ·rw[bG hi]at hx;rw[bG zo]at hy;exact h2.2 (i-xs.length) x y hx (by rw[l1];simpa using hy)
theorem RL.one{E:Nat->Prop}{ι:Inj}{x:AV}{v:Value}(h:Rel E w ι x v):RL E w ι [x] [v].toArray:=
 ⟨rfl,fun i a b ha hb=>by
  match i with
  |0=>simp at ha hb;subst ha;subst hb;exact h
  |n+1=>simp at ha⟩
theorem parts_rel{fs:List Field}{cs:List Value}{tot:Nat}{Q:Field->AV->Prop}:∀{off:Nat},off<=tot->cs.length=tot->fieldsLie P tot off fs=true->
  (∀f,f∈fs->∃y,Q f y/\RL NoE w noInj y.cells ((cs.drop f.offset).take (P.cellsOf f.type)).toArray)->
  ∃ys:List AV,ys.length=fs.length/\RL NoE w noInj (ys.flatMap AV.cells) (cs.drop off).toArray/\∀(i:Nat) f y,fs[i]? =some f->ys[i]? =some y->Q f y:=by
 induction fs with
 |nil=>
  intro off hoff hl hf _;simp only[fieldsLie,aL]at hf;refine⟨[],rfl,⟨by simp;omega,fun i x y hx=>by simp at hx⟩,fun i f y hf=>by simp at hf⟩
 |cons f fs ih=>
  intro off hoff hl hf h;simp only[fieldsLie,aJ,aL]at hf;obtain⟨h1,h2⟩:=hf;obtain⟨y,q1,q2⟩:=h f zx;have hle:off+P.cellsOf f.type<=tot:=by
   have mono:∀(fs:List Field) (o:Nat),fieldsLie P tot o fs=true->o<=tot:=by
    intro fs
    induction fs with
    |nil=>intro o ho;simp only[fieldsLie,aL]at ho;omega
    |cons g gs ihg=>
     intro o ho;simp only[fieldsLie,aJ,aL]at ho;have:=ihg _ ho.2;omega
   exact mono fs _ h2
  obtain⟨ys,a1,a2,a3⟩:=ih hle hl h2 (fun g hg=>h g (by simp[hg]));refine⟨y::ys,by simp[a1],?_,fun i g z hg hz=>?_⟩
  ·rw[h1]at q2;have e:cs.drop off=(cs.drop off).take (P.cellsOf f.type)++cs.drop (off+P.cellsOf f.type):=by
    rw[<-List.drop_drop,cO]
   rw[e,cX];exact q2.app a2
  ·cases i with
   |zero=>simp at hg hz;subst hg;subst hz;exact q1
   |succ i=>exact a3 i g z (by simpa using hg) (by simpa using hz)
theorem rows_rel{m n:Nat}{cs:List Value}{Q:AV->Prop}(hl:cs.length=m*n)(h:∀i,i<m->∃y,Q y/\RL NoE w noInj y.cells ((cs.drop (i*n)).take n).toArray):
  ∃ys:List AV,ys.length=m/\RL NoE w noInj (ys.flatMap AV.cells) cs.toArray/\∀y,y∈ys->Q y:=by
 induction m generalizing cs with
 |zero=>
  have:cs=[]:=dY zo;subst this;exact⟨[],rfl,⟨rfl,fun i x y hx=>by simp at hx⟩,fun y hy=>by simp at hy⟩
 |succ m ih=>
  obtain⟨y,q1,q2⟩:=h 0 zo;obtain⟨ys,a1,a2,a3⟩:=ih (cs:=cs.drop n) (by rw[cH,hl,fH];omega) (fun i hi=>by
   obtain⟨z,b1,b2⟩:=h (i+1) zo;refine⟨z,b1,?_⟩;rw[List.drop_drop,show n+i*n=(i+1)*n by rw[fH];omega];exact b2)
  refine⟨y::ys,by simp[a1],?_,fun z hz=>?_⟩
  ·have e:cs=cs.take n++cs.drop n:=(cO _ _).symm;rw[e,cX];simp only[fG,bZ]at q2;exact q2.app a2
  ·rcases aU.1 hz with rfl|hz
   ·exact q1
   ·exact a3 z hz
theorem list_of_fun{n:Nat}{Q:Nat->AV->Prop}(h:∀i,i<n->∃y,Q i y):∃ys:List AV,ys.length=n/\∀(i:Nat) y,ys[i]? =some y->Q i y:=by
 induction n with
 |zero=>exact⟨[],rfl,fun i y hy=>by simp at hy⟩
 |succ n ih=>
  obtain⟨ys,h1,h2⟩:=ih (fun i hi=>h i zo);obtain⟨y,hy⟩:=h n zo;refine⟨ys++[y],by simp[h1],fun i z hz=>?_⟩;rcases aF i ys.length with hi|hi
  ·rw[bD hi]at hz;exact h2 i z hz
  ·rw[bG hi]at hz;have:i-ys.length=0:=by
    rcases dI (i-ys.length)with h0|h0
    ·exact h0
    ·rw[bO (by simp;omega)]at hz;cases hz
   rw[this]at hz;simp at hz;subst hz;have:i=n:=by omega
   subst this;exact hy
end
end Go.Vm
namespace Go.Proofs.YtnomkooikbhgmaaGreatDoor
open Go Go.Vm
abbrev AC:=ACall Tryz.prog
theorem ofD(Γ:Ctx){f:FuncId}{fn:Func}(hf:Tryz.prog.funcs[f]? =some fn)(hb:fn.body=some (bdy fn):=by kernel_rfl)(hm:Tryz.prog.follows .mixedOrders=true:=by kernel_rfl)(hok:okFn Tryz.prog f=true:=by kernel_rfl)(hN:Γ.N=fn.ntmps:=by kernel_rfl)⦃args:List AV⦄ ⦃hs:List Vm.Obj⦄ ⦃K:KT⦄(hp:Nat.beq Γ.np hs.length=true) (ha:Nat.ble args.length Γ.N=true) (hq:initQ hs args fun σ=>codeQ Tryz.prog Γ (bdy fn) σ (retQ Tryz.prog Γ fn.results.toList K)):ACall Tryz.prog f args hs K:=ofC hf hb hm hok hN hp ha hq
def gpMask:Ctx:={N:=7}
abbrev ofpMask:=ofD gpMask Tryz.func191
def gpVal:Ctx:={N:=20,plan:=p1 1 (lp 13 [26,29,31,33,35]) pn}
abbrev ofpVal:=ofD gpVal Tryz.func190
def gpOf:Ctx:={N:=18,plan:=p1 3 (lp 6 [12,15,17,19,20,23]) pn}
abbrev ofpOf:=ofD gpOf Tryz.func218
def gpCon:Ctx:={N:=17,plan:=p1 1 (ln [1,2,5,7,9,11,17,19,12,15,21,23,25]) pn}
abbrev ofpCon:=ofD gpCon Tryz.func113
def gpCov:Ctx:={N:=20}
abbrev ofpCov:=ofD gpCov Tryz.func284
def gtOvl:Ctx:={N:=13}
abbrev oftOvl:=ofD gtOvl Tryz.func214
def grSize:Ctx:={N:=7}
abbrev ofrSize:=ofD grSize Tryz.func141
def grVal:Ctx:={N:=21,plan:=p1 1 (lp 14 [28,31,33,35,37]) pn}
abbrev ofrVal:=ofD grVal Tryz.func140
def grOf:Ctx:={N:=20,plan:=p1 3 (lp 7 [14,17,19,21,23,24,27]) pn}
abbrev ofrOf:=ofD grOf Tryz.func72
def grCon:Ctx:={N:=25}
abbrev ofrCon:=ofD grCon Tryz.func195
def grCov:Ctx:={N:=25}
abbrev ofrCov:=ofD grCov Tryz.func292
def grMeet:Ctx:={N:=13}
abbrev ofrMeet:=ofD grMeet Tryz.func239
def g33:Ctx:={N:=53,plan:=p1 4 (lo 41) pn}
abbrev of33:=ofD g33 Tryz.func240
def g34:Ctx:={N:=28}
abbrev of34:=ofD g34 Tryz.func205
def g14:Ctx:={N:=8}
abbrev of14:=ofD g14 Tryz.func175
def g26:Ctx:={N:=8}
abbrev of26:=ofD g26 Tryz.func241
def g45:Ctx:={N:=44,plan:=p1 5 (lo 11) (p1 6 (lp 8 [19,21,23,25,27,29,31,33,16,34,37]) pn),hints:=h1 2 [.freeze 5] hn}
abbrev of45:=ofD g45 Tryz.func248
def Aa:Sched:=.stop
def g51:Ctx:={N:=52,plan:=p1 8 (lz [3,5,7,11,17,19,21] (.alt 0 (.alt 4 (ln [12,14,22,25]) (.alt 6 (ln [8,14,22,25]) Aa)) (.alt 6 (ln [0,8,14,22,25]) Aa))) pn}
abbrev of51:=ofD g51 Tryz.func295
def g38:Ctx:={N:=123,plan:=p1 9 (lp 6 [15,17,19,21,23,25,12,26,29,31]) (p1 20 (lo 17) pn),hints:=h1 3 [.virt 10 2] hn,cut:=oz [9,10,11,18,19]}
abbrev of38:=ofD g38 Tryz.func244
structure Rg where
 lo:Int
 hi:Int
 l0:0<=lo
 l1:lo<=4294967295
 h0:0<=hi
 h1:hi<=4294967295
deriving DecidableEq
def encR(r:Rg):AV:=.agg [.v (.int .u32 r.lo),.v (.int .u32 r.hi)]
abbrev encRs(l:List Rg):AV:=.lst (l.map encR)
def has(l:List Rg)(v:Int):Bool:=l.any fun r=>decide (r.lo<=v)&&decide (v<=r.hi)
theorem has_iff{l:List Rg}{v:Int}:has l v=true↔∃r,r∈l/\r.lo<=v/\v<=r.hi:=by
 simp[has,dJ]
theorem has_succ{l:List Rg}{v:Int}{k:Nat}{r:Rg}(h:l[k]? =some r):has (l.take (k+1)) v=(has (l.take k) v||(decide (r.lo<=v)&&decide (v<=r.hi))):=by
 simp[has,bI,h]
theorem has_mem{l:List Rg}{v:Int}{k:Nat}{r:Rg}(h:l[k]? =some r)(h1:r.lo<=v)(h2:v<=r.hi):has l v=true:=has_iff.2 ⟨r,aI h,h1,h2⟩
theorem run_eq40(a b c d:Int)(w:World):(Op.equalIn 10000 96 (.agg #[.int .u32 a,.int .u32 b]) (.agg #[.int .u32 c,.int .u32 d])).run Tryz.prog w=.ok ((a==c)&&(b==d)) w:=by
 rw[run_equalIn_struct w 9999 96 _ _ zk zk];have hf:((Tryz.prog.fieldsOf 96).toList.map fun f=>(f.name== "_",f.type,f.offset))=[(false,55,0),(false,55,1)]:=by kernel_rfl
 generalize (Tryz.prog.fieldsOf 96).toList=fs at hf;have hu:Tryz.prog.underlying 55=some (.int .u32):=by kernel_rfl
 have ha:∀w,(isAgg 55).run Tryz.prog w=.ok false w:=fun w=>by simp[isAgg,run_underlying hu]
 have hp:∀(xs:Array Value) (i:Nat) (v:Value),xs[i]? =some v->∀w,(part 55 xs i).run Tryz.prog w=.ok v w:=by
  intro xs i v h w;simp[part,ha,h]
 have p1:=hp #[.int .u32 a,.int .u32 b] 0 (.int .u32 a) rfl;have p2:=hp #[.int .u32 a,.int .u32 b] 1 (.int .u32 b) rfl;have p3:=hp #[.int .u32 c,.int .u32 d] 0 (.int .u32 c) rfl;have p4:=hp #[.int .u32 c,.int .u32 d] 1 (.int .u32 d) rfl;cases fs with
 |nil=>simp at hf
 |cons f fs=>
  cases fs with
  |nil=>simp at hf
  |cons g fs=>
   cases fs with
   |cons g fs=>simp at hf
   |nil=>
    simp only[aR,bL,List.cons.injEq,Prod.mk.injEq,beq_eq_false_iff_ne,and_true]at hf;obtain⟨⟨h1,h2,h3⟩,h4,h5,h6⟩:=hf;simp only[Op.eqFields,h1,h2,h3,h4,h5,h6,ne_eq,not_false_eq_true,if_true,Sem.run_bind,p1,p2,p3,p4,Result.andThen_ok,run_equalIn_int _ 9998 55 .u32 .u32 _ _ hu,Sem.run_ite,Sem.run_pure];cases h:a==c<;>cases h':b==d<;>simp
theorem eqv_R{r s:Rg}{K:Bool->Prop}(hk:K (decide (r=s))):EqV Tryz.prog 96 [.v (.int .u32 r.lo),.v (.int .u32 r.hi)] [.v (.int .u32 s.lo),.v (.int .u32 s.hi)] K:=by
 refine EqV.intro [.int .u32 r.lo,.int .u32 r.hi] [.int .u32 s.lo,.int .u32 s.hi] (decide (r=s)) rfl rfl zk (fun w=>?_) hk;rw[run_eq40];have:((r.lo==s.lo)&&(r.hi==s.hi))=decide (r=s):=by
  cases r;cases s;rw[bJ];simp
 rw[this]
theorem c34(l:List Rg)(v:Int)(hl:l.length<1000000){K:KT}(hK:K (.sb (has l v)) []):AC 205 [encRs l,.v (.int .u32 v)] [] K:=by
 refine gO (of34 rfl rfl ?_);conv=>whnf
 refine gL Nat (fun k=>⟨0,[],[(0,encRs l),(1,.v (.int .u32 v)),(5,.v (.int .i64 k))]⟩) (fun k=>k<=l.length/\has (l.take k) v=false) (fun k=>l.length-k) 0 ?_ ?_ ?_
 ·exact⟨by omega,by simp[has]⟩
 ·exact⟨[],rfl,⟨rfl,rfl,rfl,trivial⟩,trivial⟩
 ·intro k ⟨hk,hinv⟩;have next:∀{σ:St} {r:Rg},l[k]? =some r->¬(r.lo<=v/\v<=r.hi)->k<l.length->Le 0 ⟨0,[],[(0,encRs l),(1,.v (.int .u32 v)),(5,.v (.int .i64 ((k+1:Nat):Int)))]⟩ σ->
    ∃g',(g'<=l.length/\has (l.take g') v=false)/\l.length-g'<l.length-k/\Le 0 ⟨0,[],[(0,encRs l),(1,.v (.int .u32 v)),(5,.v (.int .i64 (g':Int)))]⟩ σ:=by
   intro σ r hr hn hkl hle;refine⟨k+1,⟨by omega,?_⟩,by omega,hle⟩;rw[has_succ hr,hinv];simp only[fV,Bool.and_eq_false_iff,decide_eq_false_iff_not];omega
  conv=>whnf
  refine br_dec (fun h=>?_) (fun h=>?_)
  ·have hkl:k<l.length:=by simp at h;omega
   conv=>whnf
   refine hU hkl ?_;refine ix_any hkl (fun r hr=>?_);conv=>whnf
   refine br_dec (fun h1=>?_) (fun h1=>?_)
   ·conv=>whnf
    refine hU hkl ?_;refine hJ hr ?_;conv=>whnf
    refine br_dec (fun h2=>?_) (fun h2=>?_)
    ·conv=>whnf
     refine .inl ⟨true,rfl,?_⟩;rw[has_mem hr h1 h2]at hK;exact hK
    ·conv=>whnf
     refine wr_i64 (r:=((k+1:Nat):Int)) zo zo zo ?_;conv=>whnf
     exact next hr zo hkl ⟨[],rfl,⟨rfl,rfl,rfl,trivial⟩,trivial⟩
   ·conv=>whnf
    refine wr_i64 (r:=((k+1:Nat):Int)) zo zo zo ?_;conv=>whnf
    exact next hr zo hkl ⟨[],rfl,⟨rfl,rfl,rfl,trivial⟩,trivial⟩
  ·conv=>whnf
   have hkl:k=l.length:=by simp at h;omega
   refine .inl ⟨false,rfl,?_⟩;rw[hkl,dD]at hinv;rw[hinv]at hK;exact hK
end Go.Proofs.YtnomkooikbhgmaaGreatDoor
namespace Go.Vm
theorem wrap_u32{n:Int}(h0:0<=n)(h1:n<=4294967295):IntKind.u32.wrap n=n:=by
 simp only[IntKind.wrap,IntKind.signed,IntKind.bits];simp;omega
theorem bv32{a:Nat}(h:a<4294967296):(BitVec.ofInt 32 (a:Int)).toNat=a:=by
 rw[BitVec.ofInt_natCast,BitVec.toNat_ofNat];exact Nat.mod_eq_of_lt h
theorem mask_not(k:Nat)(hk:k<=32): ~~~(BitVec.ofInt 32 (4294967296-((2^k:Nat):Int)))=BitVec.ofNat 32 (2^k-1):=by
 have:∀k:Fin 33,~~~(BitVec.ofInt 32 (4294967296-((2^k.val:Nat):Int)))=BitVec.ofNat 32 (2^k.val-1):=by decide
 exact this ⟨k,by omega⟩
theorem p32{k:Nat}(hk:k<=32):2^k<=4294967296:=fO (show 2>0 by decide) hk
theorem bb_andNot(a b:Int):bBits .andNot .u32 a b=IntKind.u32.wrap ((BitVec.ofInt 32 a&&& ~~~(BitVec.ofInt 32 b):BitVec 32).toNat:Int):=rfl
theorem bb_and(a b:Int):bBits .and .u32 a b=IntKind.u32.wrap ((BitVec.ofInt 32 a&&&BitVec.ofInt 32 b:BitVec 32).toNat:Int):=rfl
theorem bb_or(a b:Int):bBits .or .u32 a b=IntKind.u32.wrap ((BitVec.ofInt 32 a|||BitVec.ofInt 32 b:BitVec 32).toNat:Int):=rfl
theorem bits_andNot{a:Int}(h0:0<=a)(h1:a<=4294967295){k:Nat}(hk:k<=32):bBits .andNot .u32 a (4294967296-((2^k:Nat):Int))=a%((2^k:Nat):Int):=by
 obtain⟨n,rfl⟩:=dU h0;have hp:=p32 hk;have hk0:=fJ k;rw[bb_andNot,mask_not k hk,BitVec.toNat_and,bv32 zo,BitVec.toNat_ofNat,Nat.mod_eq_of_lt (show 2^k-1<2^32 by omega),Nat.and_two_pow_sub_one_eq_mod];have:=Nat.mod_le n (2^k);rw[wrap_u32 zo zo];omega
theorem nat_mask{n k:Nat}(hk:k<=32)(hn:n<4294967296):n&&&(4294967296-2^k)=n/2^k*2^k:=by
 have e:4294967296-2^k=(2^(32-k)-1)<<<k:=by
  rw[Nat.shiftLeft_eq,Nat.sub_mul,fQ,<-Nat.pow_add,Nat.sub_add_cancel hk]
 rw[e,<-Nat.shiftLeft_eq,<-Nat.shiftRight_eq_div_pow];apply Nat.eq_of_testBit_eq;intro i;simp only[Nat.testBit_and,Nat.testBit_shiftLeft,Nat.testBit_shiftRight,Nat.testBit_two_pow_sub_one];by_cases hi:i≥k
 ·simp only[hi,decide_true,eG,show k+(i-k)=i by omega];by_cases h32:i-k<32-k
  ·simp[h32]
  ·have:n.testBit i=false:=Nat.testBit_lt_two_pow (cL hn (fO (show 2>0 by decide) (show 32<=i by omega)));simp[this]
 ·simp[hi]
theorem bits_and{a:Int}(h0:0<=a)(h1:a<=4294967295){k:Nat}(hk:k<=32):bBits .and .u32 a (4294967296-((2^k:Nat):Int))=a-a%((2^k:Nat):Int):=by
 obtain⟨n,rfl⟩:=dU h0;have hp:=p32 hk;have hk0:=fJ k;have e:(4294967296-((2^k:Nat):Int))=((4294967296-2^k:Nat):Int):=by omega
 rw[bb_and,e,BitVec.toNat_and,bv32 zo,bv32 zo,nat_mask hk zo];have h3:=Nat.div_add_mod n (2^k);rw[gF]at h3;rw[wrap_u32 zo zo];omega
theorem bits_xorMask{k:Nat}(hk:k<=32):bBits .xor .u32 4294967295 (4294967296-((2^k:Nat):Int))=((2^k:Nat):Int)-1:=by
 have:∀k:Fin 33,bBits .xor .u32 4294967295 (4294967296-((2^k.val:Nat):Int))=((2^k.val:Nat):Int)-1:=by decide
 exact this ⟨k,by omega⟩
theorem bits_orLow{a:Int}(h0:0<=a)(h1:a<=4294967295){k:Nat}(hk:k<=32)(ha:a%((2^k:Nat):Int)=0):bBits .or .u32 a (((2^k:Nat):Int)-1)=a+(((2^k:Nat):Int)-1)/\a+(((2^k:Nat):Int)-1)<=4294967295:=by
 obtain⟨n,rfl⟩:=dU h0;have hp:=p32 hk;have hk0:=fJ k;have hn:n%2^k=0:=by omega
 have h3:=Nat.div_add_mod n (2^k);have hlt:n+(2^k-1)<4294967296:=by
  have e32:2^k*2^(32-k)=4294967296:=by rw[<-Nat.pow_add,show k+(32-k)=32 by omega]
  have:n/2^k<2^(32-k):=by
   rw[gH hk0,gF,e32];omega
  have h5:2^k*(n/2^k+1)<=2^k*2^(32-k):=dS _ this;rw[e32,fR]at h5;omega
 have e:(((2^k:Nat):Int)-1)=((2^k-1:Nat):Int):=by omega
 have h4:n|||(2^k-1)=n+(2^k-1):=by
  have:=Nat.two_pow_add_eq_or_of_lt (i:=k) (b:=2^k-1) zo (n/2^k);rw[show n=2^k*(n/2^k) by omega];exact this.symm
 refine⟨?_,by omega⟩;rw[bb_or,e,BitVec.toNat_or,bv32 zo,bv32 zo,h4,wrap_u32 zo zo];omega
theorem sb_take{α:Type}{f:α->AV}{l:List α}{k:Nat}{K:List AV->Prop}(h:k<=l.length)(hk:K ((l.take k).map f)):Sb 0 (k:Int) (l.map f).length fun a b=>Sl (l.map f) a (b-a) K:=
 gY 0 k rfl rfl zo (by simpa using h) (sl_map zo (by simpa using hk))
theorem fin_t{K:KT}{hs:List Obj}{X:Bool}(hK:K (.sb X) hs)(h:X=true):(∃b,AV.v (.bool true)=.v (.bool b)/\K (.sb b) hs)\/(∃b,AV.v (.bool true)=.sb b/\K (.sb b) hs):=.inl ⟨true,rfl,h▸hK⟩
theorem fin_f{K:KT}{hs:List Obj}{X:Bool}(hK:K (.sb X) hs)(h:X=false):(∃b,AV.v (.bool false)=.v (.bool b)/\K (.sb b) hs)\/(∃b,AV.v (.bool false)=.sb b/\K (.sb b) hs):=.inl ⟨false,rfl,h▸hK⟩
theorem fin_s{K:KT}{hs:List Obj}{X b:Bool}(hK:K (.sb X) hs)(h:X=b):(∃c,AV.sb b=.v (.bool c)/\K (.sb c) hs)\/(∃c,AV.sb b=.sb c/\K (.sb c) hs):=.inr ⟨b,rfl,h▸hK⟩
end Go.Vm
namespace Go.Proofs.YtnomkooikbhgmaaGreatDoor
open Go Go.Vm
structure Pf where
 addr:Int
 bits:Int
 a0:0<=addr
 a1:addr<=4294967295
deriving DecidableEq
abbrev encP(p:Pf):AV:=.agg [.v (.int .u32 p.addr),.v (.int .i64 p.bits)]
def pz(b:Int):Int:=((2^(32-b).toNat:Nat):Int)
theorem pz_pos(b:Int):0<pz b:=by
 have:=fJ (32-b).toNat;unfold pz;omega
theorem pz_le(b:Int)(h0:0<=b):pz b<=4294967296:=by
 have:=fO (show 2>0 by decide) (show(32-b).toNat<=32 by omega);unfold pz;omega
theorem mask_wrap(n:Int)(h0:0<=n)(h1:n<=32):IntKind.u32.wrap (4294967295*2^min (32-n).toNat IntKind.u32.bits)=4294967296-pz n:=by
 have h:∀k:Fin 33,IntKind.u32.wrap (4294967295*2^min k.val IntKind.u32.bits)=4294967296-((2^k.val:Nat):Int):=by decide
 exact h ⟨(32-n).toNat,by omega⟩
theorem size_wrap(n:Int)(h0:0<=n)(h1:n<=32):IntKind.u64.wrap (1*2^min (32-n).toNat IntKind.u64.bits)=pz n:=by
 have h:∀k:Fin 33,IntKind.u64.wrap (1*2^min k.val IntKind.u64.bits)=((2^k.val:Nat):Int):=by decide
 exact h ⟨(32-n).toNat,by omega⟩
theorem wr_is{k:IntKind}{e r:Int}{K:Int->Prop}(h:k.wrap e=r)(hk:K r):Wr k e K:=Wr.intro h hk
theorem cpMask(n:Int)(h0:0<=n)(h1:n<=32){K:KT}(hK:K (.v (.int .u32 (4294967296-pz n))) []):AC 191 [.v (.int .i64 n)] [] K:=by
 refine ofpMask rfl rfl ?_
 iterate 6 (all_goals((conv=>whnf);first|refine zG ?_|apply zA|intro h|exact zT|skip))
 refine wr_is (mask_wrap n h0 h1) ?_
 iterate 2 (all_goals((conv=>whnf);first|refine zG ?_|apply zA|intro h|exact zT|skip))
 exact hK
theorem crSize(n:Int)(h0:0<=n)(h1:n<=32){K:KT}(hK:K (.v (.int .u64 (pz n))) []):AC 141 [.v (.int .i64 n)] [] K:=by
 refine ofrSize rfl rfl ?_
 iterate 6 (all_goals((conv=>whnf);first|refine zG ?_|apply zA|intro h|exact zT|skip))
 refine wr_is (size_wrap n h0 h1) ?_
 iterate 2 (all_goals((conv=>whnf);first|refine zG ?_|apply zA|intro h|exact zT|skip))
 exact hK
def Pf.okP(p:Pf):Prop:=0<=p.bits/\p.bits<=32/\p.addr%pz p.bits=0
instance (p:Pf):Decidable p.okP:=by unfold Pf.okP;infer_instance
theorem pz_ne(b:Int):pz b≠0:=Int.ne_of_gt (pz_pos b)
theorem okP_hi{p:Pf}(h:p.okP):p.addr+pz p.bits-1<=4294967295:=by
 have:=(bits_orLow p.a0 p.a1 (k:=(32-p.bits).toNat) (by obtain⟨h1,h2,h3⟩:=h;omega) h.2.2).2;unfold pz;omega
theorem crVal(p:Pf){K:KT}(hK:K (.sb (decide p.okP)) []):AC 140 [encP p] [] K:=by
 have b0:=p.a0;have b1:=p.a1;refine gO (ofrVal rfl rfl ?_)
 iterate 24 (all_goals((conv=>whnf);first|(with_reducible first|refine crSize _ zo zo ?_|refine Ob.intro (pz_ne _) ?_|refine wr_u64 (fL b0) (Int.emod_nonneg _ (pz_ne _)) (Int.le_trans (Int.le_of_lt (Int.emod_lt_of_pos _ (pz_pos _))) (Int.le_trans (pz_le _ zo) zo)) ?_)|refine zG ?_|apply zA|intro h|exact zT|skip))
 ·exact fin_s hK (decide_eq_decide.2 (by rw[fL b0];simp only[Pf.okP];omega))
 ·exact fin_f hK (decide_eq_false (by simp only[Pf.okP];omega))
 ·exact fin_f hK (decide_eq_false (by simp only[Pf.okP];omega))
theorem cpVal(p:Pf){K:KT}(hK:K (.sb (decide p.okP)) []):AC 190 [encP p] [] K:=by
 have b0:=p.a0;have b1:=p.a1;refine gO (ofpVal rfl rfl ?_)
 iterate 20 (all_goals((conv=>whnf);first|(with_reducible refine cpMask _ zo zo ?_)|refine zG ?_|apply zA|intro h|exact zT|skip))
 ·refine fin_s hK (decide_eq_decide.2 ?_);rw[pz,bits_andNot b0 b1 zo,Pf.okP,pz];omega
 ·exact fin_f hK (decide_eq_false (by simp only[Pf.okP];omega))
 ·exact fin_f hK (decide_eq_false (by simp only[Pf.okP];omega))
def Pf.rg(p:Pf):Rg:=if h:p.okP then⟨p.addr,p.addr+pz p.bits-1,p.a0,p.a1,by have:=p.a0;have:=pz_pos p.bits;omega,okP_hi h⟩else⟨0,0,by omega,by omega,by omega,by omega⟩
theorem rg_lo{p:Pf}(h:p.okP):p.rg.lo=p.addr:=by simp[Pf.rg,h]
theorem rg_hi{p:Pf}(h:p.okP):p.rg.hi=p.addr+pz p.bits-1:=by simp[Pf.rg,h]
theorem enc_rg{p:Pf}(h:p.okP):encR p.rg=.agg [.v (.int .u32 p.addr),.v (.int .u32 (p.addr+pz p.bits-1))]:=by rw[encR,rg_lo h,rg_hi h]
theorem enc_rg0{p:Pf}(h:¬p.okP):encR p.rg=.agg [.v (.int .u32 0),.v (.int .u32 0)]:=by simp[encR,Pf.rg,h]
def Pf.has(p:Pf)(v:Int):Bool:=decide p.okP&&(decide (p.rg.lo<=v)&&decide (v<=p.rg.hi))
theorem Weak.boolIs{b c:Bool}(h:c=b):Weak (.v (.bool b)) (.sb c):=h▸Weak.bool
theorem cpOf(p:Pf){K:KT}(hK:K (.tup [encR p.rg,.sb (decide p.okP)]) []):AC 218 [encP p] [] K:=by
 have b0:=p.a0;have b1:=p.a1;refine gP (ofpOf rfl rfl ?_);rcases Decidable.em p.okP with hp|hp
 ·obtain⟨h0,h1,h2⟩:=id hp
  iterate 24 (all_goals((conv=>whnf);first|(with_reducible first|refine cpVal _ ?_|refine cpMask _ h0 h1 ?_)|refine zG ?_|apply zA|intro h|exact zT|skip))
  refine⟨_,gQ .refl (Weak.boolIs (decide_eq_true hp)),?_⟩;have e:bBits BinOp.or IntKind.u32 p.addr (bBits BinOp.xor IntKind.u32 (if IntKind.u32.signed=true then-1 else IntKind.u32.max) (4294967296-pz p.bits))=p.addr+pz p.bits-1:=by
   have h3:=(bits_orLow b0 b1 (k:=(32-p.bits).toNat) zo h2).1;have h4:=bits_xorMask (k:=(32-p.bits).toNat) zo;rw[pz,show(if IntKind.u32.signed=true then-1 else IntKind.u32.max)=4294967295 from rfl,h4,h3];omega
  rw[e,<-enc_rg hp];exact hK
 ·iterate 24 (all_goals((conv=>whnf);first|(with_reducible refine cpVal _ ?_)|refine zG ?_|apply zA|intro h|exact zT|skip))
  refine⟨_,gQ .refl (Weak.boolIs (decide_eq_false hp)),?_⟩;rw[<-enc_rg0 hp];exact hK
theorem crOf(p:Pf){K:KT}(hK:K (.tup [encR p.rg,.sb (decide p.okP)]) []):AC 72 [encP p] [] K:=by
 have b0:=p.a0;have b1:=p.a1;refine gP (ofrOf rfl rfl ?_);rcases Decidable.em p.okP with hp|hp
 ·obtain⟨h0,h1,h2⟩:=id hp;have h3:=okP_hi hp;have h4:=pz_pos p.bits
  iterate 24 (all_goals((conv=>whnf);first|(with_reducible first|refine crVal _ ?_|refine crSize _ h0 h1 ?_)|refine zG ?_|apply zA|intro h|exact zT|skip))
  refine⟨_,gQ .refl (Weak.boolIs (decide_eq_true hp)),?_⟩;rw[<-enc_rg hp];exact hK
 ·iterate 24 (all_goals((conv=>whnf);first|(with_reducible refine crVal _ ?_)|refine zG ?_|apply zA|intro h|exact zT|skip))
  refine⟨_,gQ .refl (Weak.boolIs (decide_eq_false hp)),?_⟩;rw[<-enc_rg0 hp];exact hK
theorem has_iffP{p:Pf}{v:Int}:p.has v=true↔p.okP/\p.addr<=v/\v<=p.addr+pz p.bits-1:=by
 simp only[Pf.has,aJ,aL];constructor
 ·rintro⟨h,h1,h2⟩;rw[rg_lo h]at h1;rw[rg_hi h]at h2;exact⟨h,h1,h2⟩
 ·rintro⟨h,h1,h2⟩;rw[rg_lo h,rg_hi h];exact⟨h,h1,h2⟩
theorem crCon(p:Pf)(v:Int){K:KT}(hK:K (.sb (p.has v)) []):AC 195 [encP p,.v (.int .u32 v)] [] K:=by
 refine gO (ofrCon rfl rfl ?_)
 iterate 24 (all_goals((conv=>whnf);first|(with_reducible refine crOf _ ?_)|refine zG ?_|apply zA|intro h|exact zT|skip))
 ·exact fin_s hK (by simp_all[Pf.has])
 ·exact fin_f hK (by simp_all[Pf.has];omega)
 ·exact fin_f hK (by simp_all[Pf.has])
theorem block_iff{a v s:Int}(hs:0<s)(ha:a%s=0):v-v%s=a↔a<=v/\v<=a+s-1:=by
 have h1:=Int.emod_nonneg v (Int.ne_of_gt hs);have h2:=Int.emod_lt_of_pos v hs;constructor
 ·intro h;omega
 ·intro⟨h3,h4⟩;have e:v%s=(v-a)%s:=by
   have:v=(v-a)+a:=by omega
   rw[Int.sub_emod,ha,Int.sub_zero,Int.emod_emod]
  rw[Int.emod_eq_of_lt (show 0<=v-a by omega) (show v-a<s by omega)]at e;omega
theorem cpCon(p:Pf)(v:Int)(v0:0<=v)(v1:v<=4294967295){K:KT}(hK:K (.sb (p.has v)) []):AC 113 [encP p,.v (.int .u32 v)] [] K:=by
 refine gO (ofpCon rfl rfl ?_)
 iterate 24 (all_goals((conv=>whnf);first|(with_reducible first|refine cpVal _ ?_|refine cpMask _ (by simp only[Pf.okP]at h;omega) (by simp only[Pf.okP]at h;omega) ?_)|refine zG ?_|apply zA|intro h|exact zT|skip))
 ·refine fin_s hK ?_;have h0:0<=p.bits/\p.bits<=32/\p.addr%pz p.bits=0:=h;rw[pz,bits_and v0 v1 zo,<-pz,bJ,has_iffP,aL,block_iff (pz_pos _) h0.2.2];exact⟨fun h=>h.2,fun h1=>⟨h,h1⟩⟩
 ·exact fin_f hK (by simp_all[Pf.has])
def Pf.cov(p q:Pf):Bool:=decide q.okP&&(p.has q.rg.lo&&p.has q.rg.hi)
theorem crCov(p q:Pf){K:KT}(hK:K (.sb (p.cov q)) []):AC 292 [encP p,encP q] [] K:=by
 refine gO (ofrCov rfl rfl ?_)
 iterate 24 (all_goals((conv=>whnf);first|(with_reducible first|refine crOf _ ?_|refine crCon _ _ ?_)|refine zG ?_|apply zA|intro h|exact zT|skip))
 ·exact fin_s hK (by simp_all[Pf.cov])
 ·exact fin_f hK (by simp_all[Pf.cov])
 ·exact fin_f hK (by simp_all[Pf.cov])
theorem pz_mul{a b:Int}(h:a<=b)(hb:b<=32):∃k:Nat,0<k/\pz a=pz b*k:=by
 refine⟨2^(b-a).toNat,fJ _,?_⟩;unfold pz;rw[show(32-a).toNat=(32-b).toNat+(b-a).toNat by omega,Nat.pow_add]
 push_cast;rfl
theorem pz_lt{a b:Int}(h:a<b)(hb:b<=32):pz b<pz a:=by
 have:2^(32-b).toNat<2^(32-a).toNat:=Nat.pow_lt_pow_right zd zo;unfold pz;omega
theorem block_in{a b s:Int}{k:Nat}(hs:0<s)(ha:a%(s*k)=0)(hb:b%s=0)(h1:a<=b)(h2:b<=a+s*k-1):b+s-1<=a+s*k-1:=by
 have e1:s∣a:=Int.dvd_trans (Int.dvd_mul_right s k) (Int.dvd_of_emod_eq_zero ha);have e2:s∣b:=Int.dvd_of_emod_eq_zero hb;have e3:s∣(a+s*k-b):=Int.dvd_sub (Int.dvd_add e1 (Int.dvd_mul_right s k)) e2;have:=Int.le_of_dvd zo e3;omega
theorem cov_iff{p q:Pf}:p.cov q=true↔q.okP/\p.bits<=q.bits/\p.has q.addr=true:=by
 simp only[Pf.cov,aJ,aL];constructor
 ·rintro⟨h,h1,h2⟩
  rw[rg_lo h]at h1;rw[rg_hi h]at h2;refine⟨h,?_,h1⟩;have g1:=has_iffP.1 h1;have g2:=has_iffP.1 h2;rcases(by omega:q.bits<p.bits\/p.bits<=q.bits)with hb|hb
  ·have:=pz_lt hb g1.1.2.1;omega
  ·exact hb
 ·rintro⟨h,h1,h2⟩
  refine⟨h,by rw[rg_lo h];exact h2,?_⟩;rw[rg_hi h];obtain⟨g0,g1,g2⟩:=has_iffP.1 h2;have hq:=pz_pos q.bits;obtain⟨k,hk,e⟩:=pz_mul h1 h.2.1;have ha:=g0.2.2;rw[e]at ha g2;have:=block_in hq ha h.2.2 g1 g2;exact has_iffP.2 ⟨g0,by omega,by rw[e];omega⟩
theorem cpCov(p q:Pf){K:KT}(hK:K (.sb (p.cov q)) []):AC 284 [encP p,encP q] [] K:=by
 have a0:=q.a0;have a1:=q.a1;refine gO (ofpCov rfl rfl ?_)
 iterate 24 (all_goals((conv=>whnf);first|(with_reducible first|refine cpVal _ ?_|refine cpCon _ _ a0 a1 ?_)|refine zG ?_|apply zA|intro h|exact zT|skip))
 ·exact fin_s hK (by rw[bJ,cov_iff];simp_all)
 ·exact fin_f hK (by rw[bV,ne_eq,cov_iff];exact fun hh=>by have:=hh.2.1;omega)
 ·exact fin_f hK (by rw[bV,ne_eq,cov_iff];simp_all)
def Pf.meet(p q:Pf):Bool:=p.cov q||q.cov p
theorem crMeet(p q:Pf){K:KT}(hK:K (.sb (p.meet q)) []):AC 239 [encP p,encP q] [] K:=by
 refine gO (ofrMeet rfl rfl ?_)
 iterate 24 (all_goals((conv=>whnf);first|(with_reducible refine crCov _ _ ?_)|refine zG ?_|apply zA|intro h|exact zT|skip))
 ·exact fin_t hK (by simp_all[Pf.meet])
 ·exact fin_s hK (by simp_all[Pf.meet])
theorem ctOvl(p q:Pf){K:KT}(hK:K (.sb (p.meet q)) []):AC 214 [encP p,encP q] [] K:=by
 refine gO (oftOvl rfl rfl ?_)
 iterate 24 (all_goals((conv=>whnf);first|(with_reducible refine cpCov _ _ ?_)|refine zG ?_|apply zA|intro h|exact zT|skip))
 ·exact fin_t hK (by simp_all[Pf.meet])
 ·exact fin_s hK (by simp_all[Pf.meet])
def gsName:Ctx:={N:=71}
abbrev ofsName:=ofD gsName Tryz.func107
def grName:Ctx:={N:=65}
abbrev ofrName:=ofD grName Tryz.func87
def gtDevOk:Ctx:={N:=26}
abbrev oftDevOk:=ofD gtDevOk Tryz.func211
def gtDev:Ctx:={N:=9}
abbrev oftDev:=ofD gtDev Tryz.func212
def gixDev:Ctx:={N:=19}
abbrev ofixDev:=ofD gixDev Tryz.func282
def gtDev1:Ctx:={N:=8}
abbrev oftDev1:=ofD gtDev1 Tryz.func283
def gtEdgeOk:Ctx:={N:=52}
abbrev oftEdgeOk:=ofD gtEdgeOk Tryz.func213
def gtEdge:Ctx:={N:=9}
abbrev oftEdge:=ofD gtEdge Tryz.func148
def gixEdge:Ctx:={N:=19}
abbrev ofixEdge:=ofD gixEdge Tryz.func111
def gtEdge1:Ctx:={N:=8}
abbrev oftEdge1:=ofD gtEdge1 Tryz.func227
def gixPf:Ctx:={N:=19}
abbrev ofixPf:=ofD gixPf Tryz.func285
def ganyPf:Ctx:={N:=9}
abbrev ofanyPf:=ofD ganyPf Tryz.func215
def gtVal1:Ctx:={N:=7}
abbrev oftVal1:=ofD gtVal1 Tryz.func216
def gtVal:Ctx:={N:=173}
abbrev oftVal:=ofD gtVal Tryz.func142
def guDevs:Ctx:={N:=70}
abbrev ofuDevs:=ofD guDevs Tryz.func167
def guDev:Ctx:={N:=22}
abbrev ofuDev:=ofD guDev Tryz.func238
def guEdgeOk:Ctx:={N:=46}
abbrev ofuEdgeOk:=ofD guEdgeOk Tryz.func168
def guEdge:Ctx:={N:=22}
abbrev ofuEdge:=ofD guEdge Tryz.func96
def guFixed:Ctx:={N:=29,hints:=h1 2 [.virt 3 2] hn}
abbrev ofuFixed:=ofD guFixed Tryz.func85
def Ab:Sched:=lp 5 [10]
def guMeets:Ctx:={N:=18,plan:=p1 4 Ab pn}
abbrev ofuMeets:=ofD guMeets Tryz.func169
def guVal:Ctx:={N:=152,plan:=p1 12 (lp 8 [16,19,21,23,25,27,29,31,33,35,39,36,41,43]) (p1 18 (lp 7 [14]) (p1 23 (lp 5 [10,13,15,17,19,21,23,25,27,29,31,33,34,37]) pn))}
abbrev ofuVal:=ofD guVal Tryz.func84
def nmL(c:Int):Prop:=97<=c/\c<=122
def nmC(c:Int):Prop:=(97<=c/\c<=122)\/(48<=c/\c<=57)\/c=45\/c=95
def nameOk(s:ByteArray):Prop:=(s.toList==(⟨#[]⟩:ByteArray).toList)=false/\(s.size:Int)<=24/\(s.toList==(⟨#[97,110,121]⟩:ByteArray).toList)=false/\(∀b,s[0]? =some b->nmL (b.toNat:Int))/\∀(i:Nat) b,s[i]? =some b->nmC (b.toNat:Int)
open Classical in
def nameB(s:ByteArray):Bool:=decide (nameOk s)
theorem nameB_true{s:ByteArray}(h:nameOk s):nameB s=true:=by simp[nameB,h]
theorem nameB_false{s:ByteArray}(h:¬nameOk s):nameB s=false:=by simp[nameB,h]
theorem nameB_iff{s:ByteArray}:nameB s=true↔nameOk s:=by simp[nameB]
theorem size_pos{s:ByteArray}(h:(s.toList==(⟨#[]⟩:ByteArray).toList)=false):0<s.size:=by
 rcases dI s.size with h0|h0
 ·exfalso;have:s=⟨#[]⟩:=by
   obtain⟨d⟩:=s;have:d=#[]:=dE h0;rw[this]
  rw[this]at h;simp at h
 ·exact h0
theorem ix_ba{s:ByteArray}{j:Nat}{K:UInt8->Prop}(h:j<s.size)(hk:∀b,s[j]? =some b->K b):∃b,s[j]? =some b/\K b:=⟨s[j],by simp[h],hk _ (by simp[h])⟩
theorem ix_is{s:ByteArray}{j:Nat}{b:UInt8}{K:UInt8->Prop}(h:s[j]? =some b)(hk:K b):∃b,s[j]? =some b/\K b:=⟨b,h,hk⟩
theorem csName(s:ByteArray){K:KT}(hK:K (.sb (nameB s)) []):AC 107 [.v (.string s)] [] K:=by
 refine gO (ofsName rfl rfl ?_)
 iterate 12 (all_goals((conv=>whnf);first|refine zG ?_|apply zA|intro h|exact zT|skip))
 ·exact fin_f hK (nameB_false fun hn=>by have:=hn.1;simp_all)
 ·exact fin_f hK (nameB_false fun hn=>by have:=hn.2.1;omega)
 ·exact fin_f hK (nameB_false fun hn=>by have:=hn.2.2.1;simp_all)
 rename_i g1 g2;have g3:=h;have hp:=size_pos g1;refine hZ (j:=0) hp ?_;refine ix_ba hp fun c hc=>?_
 iterate 3 (all_goals((conv=>whnf);first|refine zG ?_|apply zA|intro h|exact zT|skip))
 ·exact fin_f hK (nameB_false fun hn=>by have:=hn.2.2.2.1 c hc;unfold nmL at this;omega)
 refine hZ (j:=0) hp ?_;refine ix_is hc ?_
 iterate 3 (all_goals((conv=>whnf);first|refine zG ?_|apply zA|intro h|exact zT|skip))
 ·exact fin_f hK (nameB_false fun hn=>by have:=hn.2.2.2.1 c hc;unfold nmL at this;omega)
 rename_i g4;have g5:=h;refine gL Nat (fun k=>⟨0,[],[(0,.v (.string s)),(3,.v (.int .i64 k))]⟩) (fun k=>k<=s.size/\∀(i:Nat) b,i<k->s[i]? =some b->nmC (b.toNat:Int)) (fun k=>s.size-k) 0 ?_ ?_ ?_
 ·exact⟨by omega,fun i b hi=>by omega⟩
 ·exact⟨[],rfl,⟨rfl,rfl,trivial⟩,trivial⟩
 ·intro k ⟨hk,hinv⟩;rcases aF k s.size with hkl|hkl
  ·obtain⟨b,hb⟩:∃b,s[k]? =some b:=⟨s[k],by simp[hkl]⟩
   iterate 40 (all_goals((conv=>whnf);first|(with_reducible first|refine hZ hkl ?_|refine ix_is hb ?_)|refine zG ?_|apply zA|intro h|exact zT|skip))
   all_goals first
    |(refine fin_f hK (nameB_false fun hn=>?_)
      have:=hn.2.2.2.2 k b hb;unfold nmC at this;omega)
    |(refine⟨k+1,⟨by omega,fun i c hi hc=>?_⟩,by omega,⟨[],rfl,⟨rfl,rfl,trivial⟩,trivial⟩⟩
      rcases aF i k with h9|h9
      ·exact hinv i c h9 hc
      ·have:i=k:=by omega
       subst this;rw[hb]at hc;cases hc;unfold nmC;omega)
  ·iterate 12 (all_goals((conv=>whnf);first|refine zG ?_|apply zA|intro h|exact zT|skip))
   exact fin_t hK (nameB_true ⟨g1,by omega,g3,fun b hb=>by rw[hc]at hb;cases hb;unfold nmL;omega,fun i b hb=>hinv i b (by
    rcases aF i s.size with h9|h9
    ·omega
    ·simp[h9]at hb) hb⟩)
theorem crName(s:ByteArray){K:KT}(hK:K (.sb (nameB s)) []):AC 87 [.v (.string s)] [] K:=by
 refine gO (ofrName rfl rfl ?_)
 iterate 16 (all_goals((conv=>whnf);first|refine zG ?_|apply zA|intro h|exact zT|skip))
 ·exact fin_f hK (nameB_false fun hn=>by have:=hn.1;simp_all)
 ·exact fin_f hK (nameB_false fun hn=>by have:=hn.2.1;omega)
 ·exact fin_f hK (nameB_false fun hn=>by have:=hn.2.2.1;simp_all)
 rename_i g1 g2;have g3:=h;refine gL Nat (fun k=>⟨0,[],[(0,.v (.string s)),(3,.v (.int .i64 k))]⟩) (fun k=>k<=s.size/\∀(i:Nat) b,i<k->s[i]? =some b->nmC (b.toNat:Int)/\(i=0->nmL (b.toNat:Int))) (fun k=>s.size-k) 0 ?_ ?_ ?_
 ·exact⟨by omega,fun i b hi=>by omega⟩
 ·exact⟨[],rfl,⟨rfl,rfl,trivial⟩,trivial⟩
 ·intro k ⟨hk,hinv⟩;rcases aF k s.size with hkl|hkl
  ·obtain⟨b,hb⟩:∃b,s[k]? =some b:=⟨s[k],by simp[hkl]⟩
   iterate 50 (all_goals((conv=>whnf);first|(with_reducible first|refine hZ hkl ?_|refine ix_is hb ?_)|refine zG ?_|apply zA|intro h|exact zT|skip))
   all_goals first
    |(refine fin_f hK (nameB_false fun hn=>?_)
      have h7:=hn.2.2.2.2 k b hb;have h8:=fun h0:k=0=>hn.2.2.2.1 b (h0▸hb);unfold nmC at h7;unfold nmL at h8;omega)
    |(refine⟨k+1,⟨by omega,fun i c hi hc=>?_⟩,by omega,⟨[],rfl,⟨rfl,rfl,trivial⟩,trivial⟩⟩
      rcases aF i k with h9|h9
      ·exact hinv i c h9 hc
      ·have:i=k:=by omega
       subst this;rw[hb]at hc;cases hc;unfold nmC nmL;omega)
  ·iterate 12 (all_goals((conv=>whnf);first|refine zG ?_|apply zA|intro h|exact zT|skip))
   have hall:∀(i:Nat) b,s[i]? =some b->nmC (b.toNat:Int)/\(i=0->nmL (b.toNat:Int)):=fun i b hb=>hinv i b (by
    rcases aF i s.size with h9|h9
    ·omega
    ·simp[h9]at hb) hb
   exact fin_t hK (nameB_true ⟨g1,by omega,g3,fun b hb=>(hall 0 b hb).2 rfl,fun i b hb=>(hall i b hb).1⟩)
structure Dv where
 name:ByteArray
 cap:Int
 rg:Bool
 vol:Bool
 cls:ByteArray
structure Lk where
 a:Int
 b:Int
 cost:Int
structure Ed where
 name:ByteArray
 dev:Int
 zone:ByteArray
 pf:Pf
 pl:Bool
structure Tp where
 devs:List Dv
 links:List Lk
 edges:List Ed
 pools:List Pf
 tol:Int
abbrev encD(d:Dv):AV:=.agg [.v (.string d.name),.v (.int .i64 d.cap),.sb d.rg,.sb d.vol,.v (.string d.cls)]
abbrev encL(l:Lk):AV:=.agg [.v (.int .i64 l.a),.v (.int .i64 l.b),.v (.int .i64 l.cost)]
abbrev encE(e:Ed):AV:=.agg [.v (.string e.name),.v (.int .i64 e.dev),.v (.string e.zone),.v (.int .u32 e.pf.addr),.v (.int .i64 e.pf.bits),.sb e.pl]
abbrev encT(t:Tp):AV:=.agg [.lst (t.devs.map encD),.lst (t.links.map encL),.lst (t.edges.map encE),.lst (t.pools.map encP),.v (.int .i64 t.tol)]
def firstIx{α:Type}(p:α->Bool)(l:List α):Int:=match l.findIdx? p with
 |some i=>(i:Int)
 |none=> -1
theorem firstIx_at{α:Type}{p:α->Bool}{l:List α}{k:Nat}{x:α}(hx:l[k]? =some x)(hp:p x=true)(hn:∀(i:Nat) y,i<k->l[i]? =some y->p y=false):firstIx p l=k:=by
 have hk:k<l.length:=(aP.1 hx).1;have:l.findIdx? p=some k:=by
  rw[dQ];refine⟨hk,?_,fun j hj=>?_⟩
  ·rw[aE hk]at hx;rw[bE hx];exact hp
  ·have:=hn j _ hj (aE zo);simp[this]
 simp[firstIx,this]
theorem firstIx_none{α:Type}{p:α->Bool}{l:List α}(hn:∀(i:Nat) y,l[i]? =some y->p y=false):firstIx p l= -1:=by
 have:l.findIdx? p=none:=by
  rw[fP];intro x hx;obtain⟨i,hi⟩:=bN.1 hx;exact hn i x hi
 simp[firstIx,this]
theorem before_succ{α:Type}{p:α->Bool}{l:List α}{k:Nat}{x:α}(hx:l[k]? =some x)(hp:p x=false)(hn:∀(i:Nat) y,i<k->l[i]? =some y->p y=false):∀(i:Nat) y,i<k+1->l[i]? =some y->p y=false:=by
 intro i y hi hy;rcases aF i k with h|h
 ·exact hn i y h hy
 ·have:i=k:=by omega
  subst this;rw[hx]at hy;cases hy;exact hp
theorem before_all{α:Type}{Q:Nat->α->Prop}{l:List α}{k:Nat}(hk:l.length<=k)(hn:∀(i:Nat) y,i<k->l[i]? =some y->Q i y):∀(i:Nat) y,l[i]? =some y->Q i y:=fun i y hy=>hn i y (by have:=(aP.1 hy).1;omega) hy
abbrev iB:=@before_all
theorem all_succ{α:Type}{Q:Nat->α->Prop}{l:List α}{k:Nat}{x:α}(hx:l[k]? =some x)(hp:Q k x)(hn:∀(i:Nat) y,i<k->l[i]? =some y->Q i y):∀(i:Nat) y,i<k+1->l[i]? =some y->Q i y:=by
 intro i y hi hy;rcases aF i k with h|h
 ·exact hn i y h hy
 ·have:i=k:=by omega
  subst this;rw[hx]at hy;cases hy;exact hp
abbrev iC:=@all_succ
theorem cixDev(l:List Dv)(f:FuncId)(cs:List AV)(p:Dv->Bool)(hF:∀(x:Dv) (K:AV->List Vm.Obj->Prop),K (.sb (p x)) []->AC f [encD x,.fp cs] [] K)(hl:l.length<1000000){K:KT}(hK:K (.v (.int .i64 (firstIx p l))) []):
  AC 282 [.lst (l.map encD),.fn (.func f) [] [.fp cs]] [] K:=by
 refine ofixDev rfl rfl ?_
 iterate 3 (all_goals((conv=>whnf);first|refine zG ?_|apply zA|intro h|exact zT|skip))
 refine gL Nat (fun k=>⟨0,[],[(0,.lst (l.map encD)),(1,.fn (.func f) [] [.fp cs]),(7,.v (.int .i64 (l.map encD).length)),(8,.v (.int .i64 k))]⟩) (fun k=>k<=l.length/\∀(i:Nat) y,i<k->l[i]? =some y->p y=false) (fun k=>l.length-k) 0 ?_ ?_ ?_
 ·exact⟨aK _,fun i y hi=>absurd hi (bC _)⟩
 ·exact⟨[],rfl,⟨rfl,rfl,rfl,rfl,trivial⟩,trivial⟩
 ·intro k ⟨hk,hinv⟩;rcases aF k l.length with hkl|hkl
  ·obtain⟨r,hr⟩:=gex hkl
   iterate 12 (all_goals((conv=>whnf);first|(with_reducible first|refine hU hkl ?_|refine hJ hr ?_|refine hF r _ ?_)|refine zG ?_|apply zA|intro h|exact zT|skip))
   ·rw[firstIx_at hr h hinv]at hK;exact hK
   ·exact⟨k+1,⟨by omega,before_succ hr h hinv⟩,by omega,⟨[],rfl,⟨rfl,rfl,rfl,rfl,trivial⟩,trivial⟩⟩
  ·iterate 6 (all_goals((conv=>whnf);first|refine zG ?_|apply zA|intro h|exact zT|skip))
   rw[firstIx_none (iB hkl hinv)]at hK;exact hK
theorem cixEdge(l:List Ed)(f:FuncId)(cs:List AV)(p:Ed->Bool)(hF:∀(x:Ed) (K:AV->List Vm.Obj->Prop),K (.sb (p x)) []->AC f [encE x,.fp cs] [] K)(hl:l.length<1000000){K:KT}(hK:K (.v (.int .i64 (firstIx p l))) []):
  AC 111 [.lst (l.map encE),.fn (.func f) [] [.fp cs]] [] K:=by
 refine ofixEdge rfl rfl ?_
 iterate 3 (all_goals((conv=>whnf);first|refine zG ?_|apply zA|intro h|exact zT|skip))
 refine gL Nat (fun k=>⟨0,[],[(0,.lst (l.map encE)),(1,.fn (.func f) [] [.fp cs]),(7,.v (.int .i64 (l.map encE).length)),(8,.v (.int .i64 k))]⟩) (fun k=>k<=l.length/\∀(i:Nat) y,i<k->l[i]? =some y->p y=false) (fun k=>l.length-k) 0 ?_ ?_ ?_
 ·exact⟨aK _,fun i y hi=>absurd hi (bC _)⟩
 ·exact⟨[],rfl,⟨rfl,rfl,rfl,rfl,trivial⟩,trivial⟩
 ·intro k ⟨hk,hinv⟩;rcases aF k l.length with hkl|hkl
  ·obtain⟨r,hr⟩:=gex hkl
   iterate 12 (all_goals((conv=>whnf);first|(with_reducible first|refine hU hkl ?_|refine hJ hr ?_|refine hF r _ ?_)|refine zG ?_|apply zA|intro h|exact zT|skip))
   ·rw[firstIx_at hr h hinv]at hK;exact hK
   ·exact⟨k+1,⟨by omega,before_succ hr h hinv⟩,by omega,⟨[],rfl,⟨rfl,rfl,rfl,rfl,trivial⟩,trivial⟩⟩
  ·iterate 6 (all_goals((conv=>whnf);first|refine zG ?_|apply zA|intro h|exact zT|skip))
   rw[firstIx_none (iB hkl hinv)]at hK;exact hK
theorem cixPf(l:List Pf)(f:FuncId)(cs:List AV)(p:Pf->Bool)(hF:∀(x:Pf) (K:AV->List Vm.Obj->Prop),K (.sb (p x)) []->AC f [encP x,.fp cs] [] K)(hl:l.length<1000000){K:KT}(hK:K (.v (.int .i64 (firstIx p l))) []):
  AC 285 [.lst (l.map encP),.fn (.func f) [] [.fp cs]] [] K:=by
 refine ofixPf rfl rfl ?_
 iterate 3 (all_goals((conv=>whnf);first|refine zG ?_|apply zA|intro h|exact zT|skip))
 refine gL Nat (fun k=>⟨0,[],[(0,.lst (l.map encP)),(1,.fn (.func f) [] [.fp cs]),(7,.v (.int .i64 (l.map encP).length)),(8,.v (.int .i64 k))]⟩) (fun k=>k<=l.length/\∀(i:Nat) y,i<k->l[i]? =some y->p y=false) (fun k=>l.length-k) 0 ?_ ?_ ?_
 ·exact⟨aK _,fun i y hi=>absurd hi (bC _)⟩
 ·exact⟨[],rfl,⟨rfl,rfl,rfl,rfl,trivial⟩,trivial⟩
 ·intro k ⟨hk,hinv⟩;rcases aF k l.length with hkl|hkl
  ·obtain⟨r,hr⟩:=gex hkl
   iterate 12 (all_goals((conv=>whnf);first|(with_reducible first|refine hU hkl ?_|refine hJ hr ?_|refine hF r _ ?_)|refine zG ?_|apply zA|intro h|exact zT|skip))
   ·rw[firstIx_at hr h hinv]at hK;exact hK
   ·exact⟨k+1,⟨by omega,before_succ hr h hinv⟩,by omega,⟨[],rfl,⟨rfl,rfl,rfl,rfl,trivial⟩,trivial⟩⟩
  ·iterate 6 (all_goals((conv=>whnf);first|refine zG ?_|apply zA|intro h|exact zT|skip))
   rw[firstIx_none (iB hkl hinv)]at hK;exact hK
def encU(x:Int):AV:=.v (.int .u64 x)
abbrev encUs(l:List Int):AV:=.lst (l.map encU)
def ins:List Int->Int->List Int
 |[],v=>[v]
 |x::xs,v=>if x<v then x::ins xs v else if x=v then x::xs else v::x::xs
theorem ins_take:∀(l:List Int) (v:Int) (k:Nat),(∀x,x∈l.take k->x<v)->ins l v=l.take k++ins (l.drop k) v
 |[],v,k,h=>by simp[ins]
 |x::xs,v,0,h=>by simp
 |x::xs,v,k+1,h=>by
  have hx:x<v:=h x zx;rw[List.take_succ_cons,List.drop_succ_cons,fU,<-ins_take xs v k (fun y hy=>h y (by simp[hy]))];simp[ins,hx]
def insT(l:List Int)(v top:Int):List Int:=if top<v then l else ins l v
theorem c51(l:List Int)(v top:Int)(ht0:0<=top)(ht:top<=4294967295)(hl:l.length<1000000){K:KT}(hK:K (encUs (insT l v top)) []):
  AC 295 [encUs l,.v (.int .u64 v),.v (.int .u32 top)] [] K:=by
 refine of51 rfl rfl ?_;conv=>whnf
 refine wr_u64 (r:=top) zo zo zo ?_;conv=>whnf
 refine br_dec (fun h=>?_) (fun h=>?_)
 ·conv=>whnf
  rw[insT,aG h]at hK;exact hK
 ·rw[insT,aD h]at hK;conv=>whnf
  refine gL Nat (fun k=>⟨0,[],[(0,encUs l),(1,.v (.int .u64 v)),(7,.v (.int .i64 k))]⟩) (fun k=>k<=l.length/\∀x,x∈l.take k->x<v) (fun k=>l.length-k) 0 ?_ ?_ ?_
  ·exact⟨by omega,by simp⟩
  ·exact⟨[],rfl,⟨rfl,rfl,rfl,trivial⟩,trivial⟩
  ·intro k ⟨hk,hinv⟩;have hk2:=ins_take l v k hinv;conv=>whnf
   refine br_dec (fun h=>?_) (fun h=>?_)
   ·have hkl:k<l.length:=by simp at h;omega
    conv=>whnf
    refine hU hkl ?_;refine ix_any hkl (fun x hx=>?_);conv=>whnf
    refine br_dec (fun h1=>?_) (fun h1=>?_)
    ·conv=>whnf
     refine wr_i64 (r:=((k+1:Nat):Int)) zo zo zo ?_;conv=>whnf
     refine⟨k+1,⟨by omega,?_⟩,by omega,⟨[],rfl,⟨rfl,rfl,rfl,trivial⟩,trivial⟩⟩;intro y hy;rw[bI,hx]at hy;simp only[eC,aX,aV]at hy;rcases hy with hy|rfl
     ·exact hinv y hy
     ·exact h1
    ·conv=>whnf
     refine br_pos h ?_;conv=>whnf
     refine hU hkl ?_;refine hJ hx ?_;conv=>whnf
     refine br_dec (fun h2=>?_) (fun h2=>?_)
     ·conv=>whnf
      have e:ins l v=l:=by
       rw[hk2,bB hkl];have:l[k]=x:=by rw[aE hkl]at hx;exact bE hx
       rw[this,h2];simp only[ins,Int.lt_irrefl,if_false,if_true];rw[<-h2,<-this,<-bB hkl,cO]
      rw[e]at hK;exact hK
     ·conv=>whnf
      have fin:K (.lst ([]++(List.take (k-0) (List.drop 0 l)).map encU++[encU v]++(List.take (l.length-k) (List.drop k l)).map encU)) []:=by
       have e:[]++(List.take (k-0) (List.drop 0 l)).map encU++[encU v]++(List.take (l.length-k) (List.drop k l)).map encU=(ins l v).map encU:=by
        have e2:ins (l.drop k) v=v::l.drop k:=by
         rw[bB hkl];have:l[k]=x:=by rw[aE hkl]at hx;exact bE hx
         rw[this];simp only[ins,h1,h2,if_false]
        rw[hk2,e2];simp[aY]
       rw[e];exact hK
      (repeat' ((conv=>whnf);first|(with_reducible first|refine gY 0 k rfl rfl zo (by simp;omega) ?_|refine gY k l.length rfl zx zo zx ?_|refine sl_map zo ?_|refine Ob.intro (fun x hx=>by obtain⟨y,_,rfl⟩:=cD.1 hx;rfl) ?_|refine Ob.intro zk ?_)|refine zG ?_|apply zA|intro h|exact zT));all_goals conv=>whnf
      all_goals exact fin
   ·(conv=>whnf)
    have hkl:k=l.length:=by simp at h;omega
    refine br_neg h ?_;(conv=>whnf)
    have fin:K (.lst ([]++(List.take (k-0) (List.drop 0 l)).map encU++[encU v]++(List.take (l.length-k) (List.drop k l)).map encU)) []:=by
     have e:[]++(List.take (k-0) (List.drop 0 l)).map encU++[encU v]++(List.take (l.length-k) (List.drop k l)).map encU=(ins l v).map encU:=by
      subst hkl;rw[hk2];simp[ins]
     rw[e];exact hK
    (repeat' ((conv=>whnf);first|(with_reducible first|refine gY 0 k rfl rfl zo (by simp;omega) ?_|refine gY k l.length rfl zx zo zx ?_|refine sl_map zo ?_|refine Ob.intro (fun x hx=>by obtain⟨y,_,rfl⟩:=cD.1 hx;rfl) ?_|refine Ob.intro zk ?_)|refine zG ?_|apply zA|intro h|exact zT));all_goals conv=>whnf
    all_goals exact fin
end Go.Proofs.YtnomkooikbhgmaaGreatDoor
