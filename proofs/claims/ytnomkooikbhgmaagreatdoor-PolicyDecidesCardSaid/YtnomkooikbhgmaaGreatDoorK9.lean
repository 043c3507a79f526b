/- Lemmas. -/
import Derived.OpenShut
import Derived.Test.YtnomkooikbhgmaaGreatDoorProg
import Derived.Laws.StructEq
import Derived.Test.YtnomkooikbhgmaaGreatDoorK8
set_option linter.unusedVariables false
set_option linter.unusedSimpArgs false
set_option maxRecDepth 100000
set_option maxHeartbeats 4000000
noncomputable section
namespace Go.Vm
open Go.ChangeShapes Go.WideShapes
def Ty(P:Program):Nat->TypeId->AV->Prop
 |0,_,_=>False
 |n+1,t,x=>match P.underlying t with
  |some .bool=>∃b,x=.sb b
  |some (.int k)=>∃i,x=.v (.int k i)/\k.min<=i/\i<=k.max
  |some .string=>∃s,x=.v (.string s)/\s.size<=maxLen
  |some (.slice e)=>∃xs,x=.lst xs/\xs.length<=maxLen/\∀y,y∈xs->Ty P n e y
  |some (.struct fs)=>∃ys:List AV,ys.length=fs.size/\x=.agg (ys.flatMap AV.cells)/\∀(i:Nat) f y,fs[i]? =some f->ys[i]? =some y->Ty P n f.type y
  |some (.array m e)=>∃ys:List AV,ys.length=m/\x=.agg (ys.flatMap AV.cells)/\∀y,y∈ys->Ty P n e y
  |_=>False
def pC(P:Program)(tot:Nat):Nat->List Field->Bool
 |off,[]=>decide (off=tot)
 |off,f::fs=>decide (f.offset=off)&&pC P tot (off+P.cellsOf f.type) fs
def NoE:Nat->Prop:=fun _=>False
section
variable {H:Type} {enc:TypeId×Value->H} {P:Program} {w:World} {held:Bool}
theorem RL.app{E:Nat->Prop}{ι:Inj}{xs ys:List AV}{qs bs:List Value}(h1:RL E w ι xs qs.toArray)(h2:RL E w ι ys bs.toArray):RL E w ι (xs++ys) (qs++bs).toArray:=by
 have l1:xs.length=qs.length:=by simpa using h1.1
 have l2:ys.length=bs.length:=by simpa using h2.1
 refine⟨by simp[l1,l2],fun i x y hx hy=>?_⟩;have hy:(qs++bs)[i]? =some y:=by simpa using hy
 rcases aC i xs.length with hi|hi
 ·rw[bE hi]at hx;rw[bE zo]at hy;exact h1.2 i x y hx (by simpa using hy)
 ·rw[bH hi]at hx;rw[bH zo]at hy;exact h2.2 (i-xs.length) x y hx (by rw[l1];simpa using hy)
theorem RL.one{E:Nat->Prop}{ι:Inj}{x:AV}{v:Value}(h:Rel E w ι x v):RL E w ι [x] [v].toArray:=
 ⟨rfl,fun i a b ha hb=>by
  match i with
  |0=>simp at ha hb;subst ha;subst hb;exact h
  |n+1=>simp at ha⟩
theorem Y2{fs:List Field}{cs:List Value}{tot:Nat}{Q:Field->AV->Prop}:∀{off:Nat},off<=tot->cs.length=tot->pC P tot off fs=true->
  (∀f,f∈fs->∃y,Q f y/\RL NoE w jO y.cells ((cs.drop f.offset).take (P.cellsOf f.type)).toArray)->
  ∃ys:List AV,ys.length=fs.length/\RL NoE w jO (ys.flatMap AV.cells) (cs.drop off).toArray/\∀(i:Nat) f y,fs[i]? =some f->ys[i]? =some y->Q f y:=by
 induction fs with
 |nil=>
  intro off hoff hl hf _;simp only[pC,aM]at hf;refine⟨[],rfl,⟨by simp;omega,fun i x y hx=>by simp at hx⟩,fun i f y hf=>by simp at hf⟩
 |cons f fs ih=>
  intro off hoff hl hf h;simp only[pC,aJ,aM]at hf;obtain⟨h1,h2⟩:=hf;obtain⟨y,q1,q2⟩:=h f zx;have hle:off+P.cellsOf f.type<=tot:=by
   have mono:∀(fs:List Field) (o:Nat),pC P tot o fs=true->o<=tot:=by
    intro fs
    induction fs with
    |nil=>intro o ho;simp only[pC,aM]at ho;omega
    |cons g gs ihg=>
     intro o ho;simp only[pC,aJ,aM]at ho;have:=ihg _ ho.2;omega
   exact mono fs _ h2
  obtain⟨ys,a1,a2,a3⟩:=ih hle hl h2 (fun g hg=>h g (by simp[hg]));refine⟨y::ys,by simp[a1],?_,fun i g z hg hz=>?_⟩
  ·rw[h1]at q2;have e:cs.drop off=(cs.drop off).take (P.cellsOf f.type)++cs.drop (off+P.cellsOf f.type):=by
    rw[<-List.drop_drop,cN]
   rw[e,dD];exact q2.app a2
  ·cases i with
   |zero=>simp at hg hz;subst hg;subst hz;exact q1
   |succ i=>exact a3 i g z (by simpa using hg) (by simpa using hz)
theorem aDM{m n:Nat}{cs:List Value}{Q:AV->Prop}(hl:cs.length=m*n)(h:∀i,i<m->∃y,Q y/\RL NoE w jO y.cells ((cs.drop (i*n)).take n).toArray):
  ∃ys:List AV,ys.length=m/\RL NoE w jO (ys.flatMap AV.cells) cs.toArray/\∀y,y∈ys->Q y:=by
 induction m generalizing cs with
 |zero=>
  have:cs=[]:=eC zo;subst this;exact⟨[],rfl,⟨rfl,fun i x y hx=>by simp at hx⟩,fun y hy=>by simp at hy⟩
 |succ m ih=>
  obtain⟨y,q1,q2⟩:=h 0 zo;obtain⟨ys,a1,a2,a3⟩:=ih (cs:=cs.drop n) (by rw[cQ,hl,fX];omega) (fun i hi=>by
   obtain⟨z,b1,b2⟩:=h (i+1) zo;refine⟨z,b1,?_⟩;rw[List.drop_drop,show n+i*n=(i+1)*n by rw[fX];omega];exact b2)
  refine⟨y::ys,by simp[a1],?_,fun z hz=>?_⟩
  ·have e:cs=cs.take n++cs.drop n:=(cN _ _).symm;rw[e,dD];simp only[fL,cA]at q2;exact q2.app a2
  ·rcases aV.1 hz with rfl|hz
   ·exact q1
   ·exact a3 z hz
theorem Rl{n:Nat}{Q:Nat->AV->Prop}(h:∀i,i<n->∃y,Q i y):∃ys:List AV,ys.length=n/\∀(i:Nat) y,ys[i]? =some y->Q i y:=by
 induction n with
 |zero=>exact⟨[],rfl,fun i y hy=>by simp at hy⟩
 |succ n ih=>
  obtain⟨ys,h1,h2⟩:=ih (fun i hi=>h i zo);obtain⟨y,hy⟩:=h n zo;refine⟨ys++[y],by simp[h1],fun i z hz=>?_⟩;rcases aC i ys.length with hi|hi
  ·rw[bE hi]at hz;exact h2 i z hz
  ·rw[bH hi]at hz;have:i-ys.length=0:=by
    rcases cK (i-ys.length)with h0|h0
    ·exact h0
    ·rw[bN (by simp;omega)]at hz;cases hz
   rw[this]at hz;simp at hz;subst hz;have:i=n:=by omega
   subst this;exact hy
end
end Go.Vm
namespace Go.Proofs.YtnomkooikbhgmaaGreatDoor
open Go Go.Vm
abbrev AC:=ACall Tryz.prog
theorem ofD(Γ:Ctx){f:FuncId}{fn:Func}(hf:Tryz.prog.funcs[f]? =some fn)(hb:fn.body=some (bdy fn):=by kernel_rfl)(hm:Tryz.prog.follows .mixedOrders=true:=by kernel_rfl)(hok:Kq Tryz.prog f=true:=by kernel_rfl)(hN:Γ.N=fn.ntmps:=by kernel_rfl)⦃args:List AV⦄ ⦃hs:List Vm.Obj⦄ ⦃K:KT⦄(hp:Nat.beq Γ.np hs.length=true) (ha:Nat.ble args.length Γ.N=true) (hq:Wl hs args fun σ=>qR Tryz.prog Γ (bdy fn) σ (aPF Tryz.prog Γ fn.results.toList K)):ACall Tryz.prog f args hs K:=ofC hf hb hm hok hN hp ha hq
def aMq:Ctx:={N:=7}
abbrev aHh:=ofD aMq Tryz.func191
def aSs:Ctx:={N:=20,plan:=p1 1 (lp 13 [26,29,31,33,35]) pn}
abbrev aOB:=ofD aSs Tryz.func190
def aUq:Ctx:={N:=18,plan:=p1 3 (lp 6 [12,15,17,19,20,23]) pn}
abbrev aTv:=ofD aUq Tryz.func218
def aSq:Ctx:={N:=17,plan:=p1 1 (ln [1,2,5,7,9,11,17,19,12,15,21,23,25]) pn}
abbrev aOz:=ofD aSq Tryz.func113
def aSr:Ctx:={N:=20}
abbrev aOA:=ofD aSr Tryz.func284
def aSN:Ctx:={N:=13}
abbrev aOW:=ofD aSN Tryz.func214
def aMK:Ctx:={N:=7}
abbrev aHA:=ofD aMK Tryz.func141
def aSB:Ctx:={N:=21,plan:=p1 1 (lp 14 [28,31,33,35,37]) pn}
abbrev aOK:=ofD aSB Tryz.func140
def aUr:Ctx:={N:=20,plan:=p1 3 (lp 7 [14,17,19,21,23,24,27]) pn}
abbrev aTw:=ofD aUr Tryz.func72
def aSy:Ctx:={N:=25}
abbrev aOH:=ofD aSy Tryz.func195
def aSz:Ctx:={N:=25}
abbrev aOI:=ofD aSz Tryz.func292
def aMG:Ctx:={N:=13}
abbrev aHw:=ofD aMG Tryz.func239
def g33:Ctx:={N:=53,plan:=p1 4 (lo 41) pn}
abbrev aUM:=ofD g33 Tryz.func240
def g34:Ctx:={N:=28}
abbrev aUN:=ofD g34 Tryz.func205
def g14:Ctx:={N:=8}
abbrev aUF:=ofD g14 Tryz.func175
def g26:Ctx:={N:=8}
abbrev aUJ:=ofD g26 Tryz.func241
def g45:Ctx:={N:=44,plan:=p1 5 (lo 11) (p1 6 (lp 8 [19,21,23,25,27,29,31,33,16,34,37]) pn),hints:=h1 2 [.freeze 5] hn}
abbrev aUT:=ofD g45 Tryz.func248
def Aa:Sched:=.stop
def g51:Ctx:={N:=52,plan:=p1 8 (lz [3,5,7,11,17,19,21] (.alt 0 (.alt 4 (ln [12,14,22,25]) (.alt 6 (ln [8,14,22,25]) Aa)) (.alt 6 (ln [0,8,14,22,25]) Aa))) pn}
abbrev aUY:=ofD g51 Tryz.func295
def g38:Ctx:={N:=123,plan:=p1 9 (lp 6 [15,17,19,21,23,25,12,26,29,31]) (p1 20 (lo 17) pn),hints:=h1 3 [.virt 10 2] hn,cut:=oz [9,10,11,18,19]}
abbrev aUO:=ofD g38 Tryz.func244
structure Rg where
 lo:Int
 hi:Int
 l0:0<=lo
 l1:lo<=4294967295
 h0:0<=hi
 h1:hi<=4294967295
deriving DecidableEq
def jR(r:Rg):AV:=.agg [.v (.int .u32 r.lo),.v (.int .u32 r.hi)]
abbrev iH(l:List Rg):AV:=.lst (l.map jR)
def has(l:List Rg)(v:Int):Bool:=l.any fun r=>decide (r.lo<=v)&&decide (v<=r.hi)
theorem has_iff{l:List Rg}{v:Int}:has l v=true↔∃r,r∈l/\r.lo<=v/\v<=r.hi:=by
 simp[has,dE]
theorem Q8{l:List Rg}{v:Int}{k:Nat}{r:Rg}(h:l[k]? =some r):has (l.take (k+1)) v=(has (l.take k) v||(decide (r.lo<=v)&&decide (v<=r.hi))):=by
 simp[has,bF,h]
theorem Wh{l:List Rg}{v:Int}{k:Nat}{r:Rg}(h:l[k]? =some r)(h1:r.lo<=v)(h2:v<=r.hi):has l v=true:=has_iff.2 ⟨r,aI h,h1,h2⟩
theorem aDN(a b c d:Int)(w:World):(Op.equalIn 10000 96 (.agg #[.int .u32 a,.int .u32 b]) (.agg #[.int .u32 c,.int .u32 d])).run Tryz.prog w=.ok ((a==c)&&(b==d)) w:=by
 rw[run_equalIn_struct w 9999 96 _ _ zk zk];have hf:((Tryz.prog.fieldsOf 96).toList.map fun f=>(f.name== "_",f.type,f.offset))=[(false,55,0),(false,55,1)]:=by kernel_rfl
 generalize (Tryz.prog.fieldsOf 96).toList=fs at hf;have hu:Tryz.prog.underlying 55=some (.int .u32):=by kernel_rfl
 have ha:∀w,(isAgg 55).run Tryz.prog w=.ok false w:=fun w=>by simp[isAgg,run_underlying hu]
 have hp:∀(xs:Array Value) (i:Nat) (v:Value),xs[i]? =some v->∀w,(part 55 xs i).run Tryz.prog w=.ok v w:=by
  intro xs i v h w;simp[part,ha,h]
 have p1:=hp #[.int .u32 a,.int .u32 b] 0 (.int .u32 a) rfl;have p2:=hp #[.int .u32 a,.int .u32 b] 1 (.int .u32 b) rfl;have p3:=hp #[.int .u32 c,.int .u32 d] 0 (.int .u32 c) rfl;have p4:=hp #[.int .u32 c,.int .u32 d] 1 (.int .u32 d) rfl;cases fs with
 |nil=>simp at hf
 |cons f fs=>
  cases fs with
  |nil=>simp at hf
  |cons g fs=>
   cases fs with
   |cons g fs=>simp at hf
   |nil=>
    simp only[aR,bL,List.cons.injEq,Prod.mk.injEq,beq_eq_false_iff_ne,and_true]at hf;obtain⟨⟨h1,h2,h3⟩,h4,h5,h6⟩:=hf;simp only[Op.eqFields,h1,h2,h3,h4,h5,h6,ne_eq,not_false_eq_true,if_true,Sem.run_bind,p1,p2,p3,p4,Result.andThen_ok,run_equalIn_int _ 9998 55 .u32 .u32 _ _ hu,Sem.run_ite,Sem.run_pure];cases h:a==c<;>cases h':b==d<;>simp
theorem yT{r s:Rg}{K:Bool->Prop}(hk:K (decide (r=s))):EqV Tryz.prog 96 [.v (.int .u32 r.lo),.v (.int .u32 r.hi)] [.v (.int .u32 s.lo),.v (.int .u32 s.hi)] K:=by
 refine EqV.intro [.int .u32 r.lo,.int .u32 r.hi] [.int .u32 s.lo,.int .u32 s.hi] (decide (r=s)) rfl rfl zk (fun w=>?_) hk;rw[aDN];have:((r.lo==s.lo)&&(r.hi==s.hi))=decide (r=s):=by
  cases r;cases s;rw[bK];simp
 rw[this]
theorem c34(l:List Rg)(v:Int)(hl:l.length<1000000){K:KT}(hK:K (.sb (has l v)) []):AC 205 [iH l,.v (.int .u32 v)] [] K:=by
 refine gP (aUN rfl rfl ?_);conv=>whnf
 refine gM Nat (fun k=>⟨0,[],[(0,iH l),(1,.v (.int .u32 v)),(5,.v (.int .i64 k))]⟩) (fun k=>k<=l.length/\has (l.take k) v=false) (fun k=>l.length-k) 0 ?_ ?_ ?_
 ·exact⟨by omega,by simp[has]⟩
 ·exact⟨[],rfl,⟨rfl,rfl,rfl,trivial⟩,trivial⟩
 ·intro k ⟨hk,hinv⟩;have next:∀{σ:St} {r:Rg},l[k]? =some r->¬(r.lo<=v/\v<=r.hi)->k<l.length->Le 0 ⟨0,[],[(0,iH l),(1,.v (.int .u32 v)),(5,.v (.int .i64 ((k+1:Nat):Int)))]⟩ σ->
    ∃g',(g'<=l.length/\has (l.take g') v=false)/\l.length-g'<l.length-k/\Le 0 ⟨0,[],[(0,iH l),(1,.v (.int .u32 v)),(5,.v (.int .i64 (g':Int)))]⟩ σ:=by
   intro σ r hr hn hkl hle;refine⟨k+1,⟨by omega,?_⟩,by omega,hle⟩;rw[Q8 hr,hinv];simp only[gL,Bool.and_eq_false_iff,decide_eq_false_iff_not];omega
  conv=>whnf
  refine sH (fun h=>?_) (fun h=>?_)
  ·have hkl:k<l.length:=by simp at h;omega
   conv=>whnf
   refine hZ hkl ?_;refine oG hkl (fun r hr=>?_);conv=>whnf
   refine sH (fun h1=>?_) (fun h1=>?_)
   ·conv=>whnf
    refine hZ hkl ?_;refine hU hr ?_;conv=>whnf
    refine sH (fun h2=>?_) (fun h2=>?_)
    ·conv=>whnf
     refine .inl ⟨true,rfl,?_⟩;rw[Wh hr h1 h2]at hK;exact hK
    ·conv=>whnf
     refine jB (r:=((k+1:Nat):Int)) zo zo zo ?_;conv=>whnf
     exact next hr zo hkl ⟨[],rfl,⟨rfl,rfl,rfl,trivial⟩,trivial⟩
   ·conv=>whnf
    refine jB (r:=((k+1:Nat):Int)) zo zo zo ?_;conv=>whnf
    exact next hr zo hkl ⟨[],rfl,⟨rfl,rfl,rfl,trivial⟩,trivial⟩
  ·conv=>whnf
   have hkl:k=l.length:=by simp at h;omega
   refine .inl ⟨false,rfl,?_⟩;rw[hkl,dA]at hinv;rw[hinv]at hK;exact hK
end Go.Proofs.YtnomkooikbhgmaaGreatDoor
namespace Go.Vm
theorem Kh{n:Int}(h0:0<=n)(h1:n<=4294967295):IntKind.u32.wrap n=n:=by
 simp only[IntKind.wrap,IntKind.signed,IntKind.bits];simp;omega
theorem Z5{a:Nat}(h:a<4294967296):(BitVec.ofInt 32 (a:Int)).toNat=a:=by
 rw[BitVec.ofInt_natCast,BitVec.toNat_ofNat];exact Nat.mod_eq_of_lt h
theorem aCa(k:Nat)(hk:k<=32): ~~~(BitVec.ofInt 32 (4294967296-((2^k:Nat):Int)))=BitVec.ofNat 32 (2^k-1):=by
 have:∀k:Fin 33,~~~(BitVec.ofInt 32 (4294967296-((2^k.val:Nat):Int)))=BitVec.ofNat 32 (2^k.val-1):=by decide
 exact this ⟨k,by omega⟩
theorem p32{k:Nat}(hk:k<=32):2^k<=4294967296:=fQ (show 2>0 by decide) hk
theorem Xk(a b:Int):qO .andNot .u32 a b=IntKind.u32.wrap ((BitVec.ofInt 32 a&&& ~~~(BitVec.ofInt 32 b):BitVec 32).toNat:Int):=rfl
theorem aJZ(a b:Int):qO .and .u32 a b=IntKind.u32.wrap ((BitVec.ofInt 32 a&&&BitVec.ofInt 32 b:BitVec 32).toNat:Int):=rfl
theorem aPT(a b:Int):qO .or .u32 a b=IntKind.u32.wrap ((BitVec.ofInt 32 a|||BitVec.ofInt 32 b:BitVec 32).toNat:Int):=rfl
theorem P4{a:Int}(h0:0<=a)(h1:a<=4294967295){k:Nat}(hk:k<=32):qO .andNot .u32 a (4294967296-((2^k:Nat):Int))=a%((2^k:Nat):Int):=by
 obtain⟨n,rfl⟩:=dS h0;have hp:=p32 hk;have hk0:=fE k;rw[Xk,aCa k hk,BitVec.toNat_and,Z5 zo,BitVec.toNat_ofNat,Nat.mod_eq_of_lt (show 2^k-1<2^32 by omega),Nat.and_two_pow_sub_one_eq_mod];have:=Nat.mod_le n (2^k);rw[Kh zo zo];omega
theorem aCc{n k:Nat}(hk:k<=32)(hn:n<4294967296):n&&&(4294967296-2^k)=n/2^k*2^k:=by
 have e:4294967296-2^k=(2^(32-k)-1)<<<k:=by
  rw[Nat.shiftLeft_eq,Nat.sub_mul,fT,<-Nat.pow_add,Nat.sub_add_cancel hk]
 rw[e,<-Nat.shiftLeft_eq,<-Nat.shiftRight_eq_div_pow];apply Nat.eq_of_testBit_eq;intro i;simp only[Nat.testBit_and,Nat.testBit_shiftLeft,Nat.testBit_shiftRight,Nat.testBit_two_pow_sub_one];by_cases hi:i≥k
 ·simp only[hi,decide_true,dQ,show k+(i-k)=i by omega];by_cases h32:i-k<32-k
  ·simp[h32]
  ·have:n.testBit i=false:=Nat.testBit_lt_two_pow (cO hn (fQ (show 2>0 by decide) (show 32<=i by omega)));simp[this]
 ·simp[hi]
theorem Zu{a:Int}(h0:0<=a)(h1:a<=4294967295){k:Nat}(hk:k<=32):qO .and .u32 a (4294967296-((2^k:Nat):Int))=a-a%((2^k:Nat):Int):=by
 obtain⟨n,rfl⟩:=dS h0;have hp:=p32 hk;have hk0:=fE k;have e:(4294967296-((2^k:Nat):Int))=((4294967296-2^k:Nat):Int):=by omega
 rw[aJZ,e,BitVec.toNat_and,Z5 zo,Z5 zo,aCc hk zo];have h3:=Nat.div_add_mod n (2^k);rw[gH]at h3;rw[Kh zo zo];omega
theorem M9{k:Nat}(hk:k<=32):qO .xor .u32 4294967295 (4294967296-((2^k:Nat):Int))=((2^k:Nat):Int)-1:=by
 have:∀k:Fin 33,qO .xor .u32 4294967295 (4294967296-((2^k.val:Nat):Int))=((2^k.val:Nat):Int)-1:=by decide
 exact this ⟨k,by omega⟩
theorem Ia{a:Int}(h0:0<=a)(h1:a<=4294967295){k:Nat}(hk:k<=32)(ha:a%((2^k:Nat):Int)=0):qO .or .u32 a (((2^k:Nat):Int)-1)=a+(((2^k:Nat):Int)-1)/\a+(((2^k:Nat):Int)-1)<=4294967295:=by
 obtain⟨n,rfl⟩:=dS h0;have hp:=p32 hk;have hk0:=fE k;have hn:n%2^k=0:=by omega
 have h3:=Nat.div_add_mod n (2^k);have hlt:n+(2^k-1)<4294967296:=by
  have e32:2^k*2^(32-k)=4294967296:=by rw[<-Nat.pow_add,show k+(32-k)=32 by omega]
  have:n/2^k<2^(32-k):=by
   rw[gJ hk0,gH,e32];omega
  have h5:2^k*(n/2^k+1)<=2^k*2^(32-k):=dY _ this;rw[e32,fU]at h5;omega
 have e:(((2^k:Nat):Int)-1)=((2^k-1:Nat):Int):=by omega
 have h4:n|||(2^k-1)=n+(2^k-1):=by
  have:=Nat.two_pow_add_eq_or_of_lt (i:=k) (b:=2^k-1) zo (n/2^k);rw[show n=2^k*(n/2^k) by omega];exact this.symm
 refine⟨?_,by omega⟩;rw[aPT,e,BitVec.toNat_or,Z5 zo,Z5 zo,h4,Kh zo zo];omega
theorem Hy{α:Type}{f:α->AV}{l:List α}{k:Nat}{K:List AV->Prop}(h:k<=l.length)(hk:K ((l.take k).map f)):Sb 0 (k:Int) (l.map f).length fun a b=>Sl (l.map f) a (b-a) K:=
 gZ 0 k rfl rfl zo (by simpa using h) (mQ zo (by simpa using hk))
theorem jU{K:KT}{hs:List Obj}{X:Bool}(hK:K (.sb X) hs)(h:X=true):(∃b,AV.v (.bool true)=.v (.bool b)/\K (.sb b) hs)\/(∃b,AV.v (.bool true)=.sb b/\K (.sb b) hs):=.inl ⟨true,rfl,h▸hK⟩
theorem iL{K:KT}{hs:List Obj}{X:Bool}(hK:K (.sb X) hs)(h:X=false):(∃b,AV.v (.bool false)=.v (.bool b)/\K (.sb b) hs)\/(∃b,AV.v (.bool false)=.sb b/\K (.sb b) hs):=.inl ⟨false,rfl,h▸hK⟩
theorem jP{K:KT}{hs:List Obj}{X b:Bool}(hK:K (.sb X) hs)(h:X=b):(∃c,AV.sb b=.v (.bool c)/\K (.sb c) hs)\/(∃c,AV.sb b=.sb c/\K (.sb c) hs):=.inr ⟨b,rfl,h▸hK⟩
end Go.Vm
namespace Go.Proofs.YtnomkooikbhgmaaGreatDoor
open Go Go.Vm
structure Pf where
 addr:Int
 bits:Int
 a0:0<=addr
 a1:addr<=4294967295
deriving DecidableEq
abbrev mT(p:Pf):AV:=.agg [.v (.int .u32 p.addr),.v (.int .i64 p.bits)]
def pz(b:Int):Int:=((2^(32-b).toNat:Nat):Int)
theorem C4(b:Int):0<pz b:=by
 have:=fE (32-b).toNat;unfold pz;omega
theorem aTI(b:Int)(h0:0<=b):pz b<=4294967296:=by
 have:=fQ (show 2>0 by decide) (show(32-b).toNat<=32 by omega);unfold pz;omega
theorem Yj(n:Int)(h0:0<=n)(h1:n<=32):IntKind.u32.wrap (4294967295*2^min (32-n).toNat IntKind.u32.bits)=4294967296-pz n:=by
 have h:∀k:Fin 33,IntKind.u32.wrap (4294967295*2^min k.val IntKind.u32.bits)=4294967296-((2^k.val:Nat):Int):=by decide
 exact h ⟨(32-n).toNat,by omega⟩
theorem Zd(n:Int)(h0:0<=n)(h1:n<=32):IntKind.u64.wrap (1*2^min (32-n).toNat IntKind.u64.bits)=pz n:=by
 have h:∀k:Fin 33,IntKind.u64.wrap (1*2^min k.val IntKind.u64.bits)=((2^k.val:Nat):Int):=by decide
 exact h ⟨(32-n).toNat,by omega⟩
theorem aJW{k:IntKind}{e r:Int}{K:Int->Prop}(h:k.wrap e=r)(hk:K r):Wr k e K:=Wr.intro h hk
theorem Td(n:Int)(h0:0<=n)(h1:n<=32){K:KT}(hK:K (.v (.int .u32 (4294967296-pz n))) []):AC 191 [.v (.int .i64 n)] [] K:=by
 refine aHh rfl rfl ?_
 iterate 6 (all_goals((conv=>whnf);first|refine zG ?_|apply zA|intro h|exact zT|skip))
 refine aJW (Yj n h0 h1) ?_
 iterate 2 (all_goals((conv=>whnf);first|refine zG ?_|apply zA|intro h|exact zT|skip))
 exact hK
theorem aAy(n:Int)(h0:0<=n)(h1:n<=32){K:KT}(hK:K (.v (.int .u64 (pz n))) []):AC 141 [.v (.int .i64 n)] [] K:=by
 refine aHA rfl rfl ?_
 iterate 6 (all_goals((conv=>whnf);first|refine zG ?_|apply zA|intro h|exact zT|skip))
 refine aJW (Zd n h0 h1) ?_
 iterate 2 (all_goals((conv=>whnf);first|refine zG ?_|apply zA|intro h|exact zT|skip))
 exact hK
def Pf.okP(p:Pf):Prop:=0<=p.bits/\p.bits<=32/\p.addr%pz p.bits=0
instance (p:Pf):Decidable p.okP:=by unfold Pf.okP;infer_instance
theorem aJM(b:Int):pz b≠0:=Int.ne_of_gt (C4 b)
theorem aDn{p:Pf}(h:p.okP):p.addr+pz p.bits-1<=4294967295:=by
 have:=(Ia p.a0 p.a1 (k:=(32-p.bits).toNat) (by obtain⟨h1,h2,h3⟩:=h;omega) h.2.2).2;unfold pz;omega
theorem Qk(p:Pf){K:KT}(hK:K (.sb (decide p.okP)) []):AC 140 [mT p] [] K:=by
 have b0:=p.a0;have b1:=p.a1;refine gP (aOK rfl rfl ?_)
 iterate 24 (all_goals((conv=>whnf);first|(with_reducible first|refine aAy _ zo zo ?_|refine Ob.intro (aJM _) ?_|refine xP (fO b0) (Int.emod_nonneg _ (aJM _)) (Int.le_trans (Int.le_of_lt (Int.emod_lt_of_pos _ (C4 _))) (Int.le_trans (aTI _ zo) zo)) ?_)|refine zG ?_|apply zA|intro h|exact zT|skip))
 ·exact jP hK (decide_eq_decide.2 (by rw[fO b0];simp only[Pf.okP];omega))
 ·exact iL hK (decide_eq_false (by simp only[Pf.okP];omega))
 ·exact iL hK (decide_eq_false (by simp only[Pf.okP];omega))
theorem Im(p:Pf){K:KT}(hK:K (.sb (decide p.okP)) []):AC 190 [mT p] [] K:=by
 have b0:=p.a0;have b1:=p.a1;refine gP (aOB rfl rfl ?_)
 iterate 20 (all_goals((conv=>whnf);first|(with_reducible refine Td _ zo zo ?_)|refine zG ?_|apply zA|intro h|exact zT|skip))
 ·refine jP hK (decide_eq_decide.2 ?_);rw[pz,P4 b0 b1 zo,Pf.okP,pz];omega
 ·exact iL hK (decide_eq_false (by simp only[Pf.okP];omega))
 ·exact iL hK (decide_eq_false (by simp only[Pf.okP];omega))
def Pf.rg(p:Pf):Rg:=if h:p.okP then⟨p.addr,p.addr+pz p.bits-1,p.a0,p.a1,by have:=p.a0;have:=C4 p.bits;omega,aDn h⟩else⟨0,0,by omega,by omega,by omega,by omega⟩
theorem Sf{p:Pf}(h:p.okP):p.rg.lo=p.addr:=by simp[Pf.rg,h]
theorem Se{p:Pf}(h:p.okP):p.rg.hi=p.addr+pz p.bits-1:=by simp[Pf.rg,h]
theorem aBc{p:Pf}(h:p.okP):jR p.rg=.agg [.v (.int .u32 p.addr),.v (.int .u32 (p.addr+pz p.bits-1))]:=by rw[jR,Sf h,Se h]
theorem V6{p:Pf}(h:¬p.okP):jR p.rg=.agg [.v (.int .u32 0),.v (.int .u32 0)]:=by simp[jR,Pf.rg,h]
def Pf.has(p:Pf)(v:Int):Bool:=decide p.okP&&(decide (p.rg.lo<=v)&&decide (v<=p.rg.hi))
theorem Weak.boolIs{b c:Bool}(h:c=b):Weak (.v (.bool b)) (.sb c):=h▸Weak.bool
theorem aQu(p:Pf){K:KT}(hK:K (.tup [jR p.rg,.sb (decide p.okP)]) []):AC 218 [mT p] [] K:=by
 have b0:=p.a0;have b1:=p.a1;refine gQ (aTv rfl rfl ?_);rcases Decidable.em p.okP with hp|hp
 ·obtain⟨h0,h1,h2⟩:=id hp
  iterate 24 (all_goals((conv=>whnf);first|(with_reducible first|refine Im _ ?_|refine Td _ h0 h1 ?_)|refine zG ?_|apply zA|intro h|exact zT|skip))
  refine⟨_,gR .refl (Weak.boolIs (decide_eq_true hp)),?_⟩;have e:qO BinOp.or IntKind.u32 p.addr (qO BinOp.xor IntKind.u32 (if IntKind.u32.signed=true then-1 else IntKind.u32.max) (4294967296-pz p.bits))=p.addr+pz p.bits-1:=by
   have h3:=(Ia b0 b1 (k:=(32-p.bits).toNat) zo h2).1;have h4:=M9 (k:=(32-p.bits).toNat) zo;rw[pz,show(if IntKind.u32.signed=true then-1 else IntKind.u32.max)=4294967295 from rfl,h4,h3];omega
  rw[e,<-aBc hp];exact hK
 ·iterate 24 (all_goals((conv=>whnf);first|(with_reducible refine Im _ ?_)|refine zG ?_|apply zA|intro h|exact zT|skip))
  refine⟨_,gR .refl (Weak.boolIs (decide_eq_false hp)),?_⟩;rw[<-V6 hp];exact hK
theorem Xx(p:Pf){K:KT}(hK:K (.tup [jR p.rg,.sb (decide p.okP)]) []):AC 72 [mT p] [] K:=by
 have b0:=p.a0;have b1:=p.a1;refine gQ (aTw rfl rfl ?_);rcases Decidable.em p.okP with hp|hp
 ·obtain⟨h0,h1,h2⟩:=id hp;have h3:=aDn hp;have h4:=C4 p.bits
  iterate 24 (all_goals((conv=>whnf);first|(with_reducible first|refine Qk _ ?_|refine aAy _ h0 h1 ?_)|refine zG ?_|apply zA|intro h|exact zT|skip))
  refine⟨_,gR .refl (Weak.boolIs (decide_eq_true hp)),?_⟩;rw[<-aBc hp];exact hK
 ·iterate 24 (all_goals((conv=>whnf);first|(with_reducible refine Qk _ ?_)|refine zG ?_|apply zA|intro h|exact zT|skip))
  refine⟨_,gR .refl (Weak.boolIs (decide_eq_false hp)),?_⟩;rw[<-V6 hp];exact hK
theorem has_iffP{p:Pf}{v:Int}:p.has v=true↔p.okP/\p.addr<=v/\v<=p.addr+pz p.bits-1:=by
 simp only[Pf.has,aJ,aM];constructor
 ·rintro⟨h,h1,h2⟩;rw[Sf h]at h1;rw[Se h]at h2;exact⟨h,h1,h2⟩
 ·rintro⟨h,h1,h2⟩;rw[Sf h,Se h];exact⟨h,h1,h2⟩
theorem aJn(p:Pf)(v:Int){K:KT}(hK:K (.sb (p.has v)) []):AC 195 [mT p,.v (.int .u32 v)] [] K:=by
 refine gP (aOH rfl rfl ?_)
 iterate 24 (all_goals((conv=>whnf);first|(with_reducible refine Xx _ ?_)|refine zG ?_|apply zA|intro h|exact zT|skip))
 ·exact jP hK (by simp_all[Pf.has])
 ·exact iL hK (by simp_all[Pf.has];omega)
 ·exact iL hK (by simp_all[Pf.has])
theorem Xl{a v s:Int}(hs:0<s)(ha:a%s=0):v-v%s=a↔a<=v/\v<=a+s-1:=by
 have h1:=Int.emod_nonneg v (Int.ne_of_gt hs);have h2:=Int.emod_lt_of_pos v hs;constructor
 ·intro h;omega
 ·intro⟨h3,h4⟩;have e:v%s=(v-a)%s:=by
   have:v=(v-a)+a:=by omega
   rw[Int.sub_emod,ha,Int.sub_zero,Int.emod_emod]
  rw[Int.emod_eq_of_lt (show 0<=v-a by omega) (show v-a<s by omega)]at e;omega
theorem aJj(p:Pf)(v:Int)(v0:0<=v)(v1:v<=4294967295){K:KT}(hK:K (.sb (p.has v)) []):AC 113 [mT p,.v (.int .u32 v)] [] K:=by
 refine gP (aOz rfl rfl ?_)
 iterate 24 (all_goals((conv=>whnf);first|(with_reducible first|refine Im _ ?_|refine Td _ (by simp only[Pf.okP]at h;omega) (by simp only[Pf.okP]at h;omega) ?_)|refine zG ?_|apply zA|intro h|exact zT|skip))
 ·refine jP hK ?_;have h0:0<=p.bits/\p.bits<=32/\p.addr%pz p.bits=0:=h;rw[pz,Zu v0 v1 zo,<-pz,bK,has_iffP,aM,Xl (C4 _) h0.2.2];exact⟨fun h=>h.2,fun h1=>⟨h,h1⟩⟩
 ·exact iL hK (by simp_all[Pf.has])
def Pf.cov(p q:Pf):Bool:=decide q.okP&&(p.has q.rg.lo&&p.has q.rg.hi)
theorem aQA(p q:Pf){K:KT}(hK:K (.sb (p.cov q)) []):AC 292 [mT p,mT q] [] K:=by
 refine gP (aOI rfl rfl ?_)
 iterate 24 (all_goals((conv=>whnf);first|(with_reducible first|refine Xx _ ?_|refine aJn _ _ ?_)|refine zG ?_|apply zA|intro h|exact zT|skip))
 ·exact jP hK (by simp_all[Pf.cov])
 ·exact iL hK (by simp_all[Pf.cov])
 ·exact iL hK (by simp_all[Pf.cov])
theorem aPA{a b:Int}(h:a<=b)(hb:b<=32):∃k:Nat,0<k/\pz a=pz b*k:=by
 refine⟨2^(b-a).toNat,fE _,?_⟩;unfold pz;rw[show(32-a).toNat=(32-b).toNat+(b-a).toNat by omega,Nat.pow_add]
 push_cast;rfl
theorem aTJ{a b:Int}(h:a<b)(hb:b<=32):pz b<pz a:=by
 have:2^(32-b).toNat<2^(32-a).toNat:=Nat.pow_lt_pow_right zd zo;unfold pz;omega
theorem Zv{a b s:Int}{k:Nat}(hs:0<s)(ha:a%(s*k)=0)(hb:b%s=0)(h1:a<=b)(h2:b<=a+s*k-1):b+s-1<=a+s*k-1:=by
 have e1:s∣a:=Int.dvd_trans (Int.dvd_mul_right s k) (Int.dvd_of_emod_eq_zero ha);have e2:s∣b:=Int.dvd_of_emod_eq_zero hb;have e3:s∣(a+s*k-b):=Int.dvd_sub (Int.dvd_add e1 (Int.dvd_mul_right s k)) e2;have:=Int.le_of_dvd zo e3;omega
theorem Nm{p q:Pf}:p.cov q=true↔q.okP/\p.bits<=q.bits/\p.has q.addr=true:=by
 simp only[Pf.cov,aJ,aM];constructor
 ·rintro⟨h,h1,h2⟩
  rw[Sf h]at h1;rw[Se h]at h2;refine⟨h,?_,h1⟩;have g1:=has_iffP.1 h1;have g2:=has_iffP.1 h2;rcases(by omega:q.bits<p.bits\/p.bits<=q.bits)with hb|hb
  ·have:=aTJ hb g1.1.2.1;omega
  ·exact hb
 ·rintro⟨h,h1,h2⟩
  refine⟨h,by rw[Sf h];exact h2,?_⟩;rw[Se h];obtain⟨g0,g1,g2⟩:=has_iffP.1 h2;have hq:=C4 q.bits;obtain⟨k,hk,e⟩:=aPA h1 h.2.1;have ha:=g0.2.2;rw[e]at ha g2;have:=Zv hq ha h.2.2 g1 g2;exact has_iffP.2 ⟨g0,by omega,by rw[e];omega⟩
theorem aQt(p q:Pf){K:KT}(hK:K (.sb (p.cov q)) []):AC 284 [mT p,mT q] [] K:=by
 have a0:=q.a0;have a1:=q.a1;refine gP (aOA rfl rfl ?_)
 iterate 24 (all_goals((conv=>whnf);first|(with_reducible first|refine Im _ ?_|refine aJj _ _ a0 a1 ?_)|refine zG ?_|apply zA|intro h|exact zT|skip))
 ·exact jP hK (by rw[bK,Nm];simp_all)
 ·exact iL hK (by rw[cB,ne_eq,Nm];exact fun hh=>by have:=hh.2.1;omega)
 ·exact iL hK (by rw[cB,ne_eq,Nm];simp_all)
def Pf.meet(p q:Pf):Bool:=p.cov q||q.cov p
theorem aKG(p q:Pf){K:KT}(hK:K (.sb (p.meet q)) []):AC 239 [mT p,mT q] [] K:=by
 refine gP (aHw rfl rfl ?_)
 iterate 24 (all_goals((conv=>whnf);first|(with_reducible refine aQA _ _ ?_)|refine zG ?_|apply zA|intro h|exact zT|skip))
 ·exact jU hK (by simp_all[Pf.meet])
 ·exact jP hK (by simp_all[Pf.meet])
theorem aJr(p q:Pf){K:KT}(hK:K (.sb (p.meet q)) []):AC 214 [mT p,mT q] [] K:=by
 refine gP (aOW rfl rfl ?_)
 iterate 24 (all_goals((conv=>whnf);first|(with_reducible refine aQt _ _ ?_)|refine zG ?_|apply zA|intro h|exact zT|skip))
 ·exact jU hK (by simp_all[Pf.meet])
 ·exact jP hK (by simp_all[Pf.meet])
def aMR:Ctx:={N:=71}
abbrev aHH:=ofD aMR Tryz.func107
def aMJ:Ctx:={N:=65}
abbrev aHz:=ofD aMJ Tryz.func87
def aGa:Ctx:={N:=26}
abbrev aCX:=ofD aGa Tryz.func211
def aSM:Ctx:={N:=9}
abbrev aOV:=ofD aSM Tryz.func212
def aLN:Ctx:={N:=19}
abbrev aGE:=ofD aLN Tryz.func282
def aNh:Ctx:={N:=8}
abbrev aHZ:=ofD aNh Tryz.func283
def aBH:Ctx:={N:=52}
abbrev Yy:=ofD aBH Tryz.func213
def aNi:Ctx:={N:=9}
abbrev aIa:=ofD aNi Tryz.func148
def aFq:Ctx:={N:=19}
abbrev Rr:=ofD aFq Tryz.func111
def aGb:Ctx:={N:=8}
abbrev aCY:=ofD aGb Tryz.func227
def aRN:Ctx:={N:=19}
abbrev aNZ:=ofD aRN Tryz.func285
def aLF:Ctx:={N:=9}
abbrev aGw:=ofD aLF Tryz.func215
def aNj:Ctx:={N:=7}
abbrev aIb:=ofD aNj Tryz.func216
def aSO:Ctx:={N:=173}
abbrev aOX:=ofD aSO Tryz.func142
def aNl:Ctx:={N:=70}
abbrev aId:=ofD aNl Tryz.func167
def aSP:Ctx:={N:=22}
abbrev aOY:=ofD aSP Tryz.func238
def aBI:Ctx:={N:=46}
abbrev Yz:=ofD aBI Tryz.func168
def aNm:Ctx:={N:=22}
abbrev aIe:=ofD aNm Tryz.func96
def aGc:Ctx:={N:=29,hints:=h1 2 [.virt 3 2] hn}
abbrev aCZ:=ofD aGc Tryz.func85
def Ab:Sched:=lp 5 [10]
def aGd:Ctx:={N:=18,plan:=p1 4 Ab pn}
abbrev aDa:=ofD aGd Tryz.func169
def aSQ:Ctx:={N:=152,plan:=p1 12 (lp 8 [16,19,21,23,25,27,29,31,33,35,39,36,41,43]) (p1 18 (lp 7 [14]) (p1 23 (lp 5 [10,13,15,17,19,21,23,25,27,29,31,33,34,37]) pn))}
abbrev aOZ:=ofD aSQ Tryz.func84
def nmL(c:Int):Prop:=97<=c/\c<=122
def nmC(c:Int):Prop:=(97<=c/\c<=122)\/(48<=c/\c<=57)\/c=45\/c=95
def nQ(s:ByteArray):Prop:=(s.toList==(⟨#[]⟩:ByteArray).toList)=false/\(s.size:Int)<=24/\(s.toList==(⟨#[97,110,121]⟩:ByteArray).toList)=false/\(∀b,s[0]? =some b->nmL (b.toNat:Int))/\∀(i:Nat) b,s[i]? =some b->nmC (b.toNat:Int)
open Classical in
def kW(s:ByteArray):Bool:=decide (nQ s)
theorem nD{s:ByteArray}(h:nQ s):kW s=true:=by simp[kW,h]
theorem lU{s:ByteArray}(h:¬nQ s):kW s=false:=by simp[kW,h]
theorem nameB_iff{s:ByteArray}:kW s=true↔nQ s:=by simp[kW]
theorem aDS{s:ByteArray}(h:(s.toList==(⟨#[]⟩:ByteArray).toList)=false):0<s.size:=by
 rcases cK s.size with h0|h0
 ·exfalso;have:s=⟨#[]⟩:=by
   obtain⟨d⟩:=s;have:d=#[]:=dG h0;rw[this]
  rw[this]at h;simp at h
 ·exact h0
theorem aBT{s:ByteArray}{j:Nat}{K:UInt8->Prop}(h:j<s.size)(hk:∀b,s[j]? =some b->K b):∃b,s[j]? =some b/\K b:=⟨s[j],by simp[h],hk _ (by simp[h])⟩
theorem aBU{s:ByteArray}{j:Nat}{b:UInt8}{K:UInt8->Prop}(h:s[j]? =some b)(hk:K b):∃b,s[j]? =some b/\K b:=⟨b,h,hk⟩
theorem tM(s:ByteArray){K:KT}(hK:K (.sb (kW s)) []):AC 107 [.v (.string s)] [] K:=by
 refine gP (aHH rfl rfl ?_)
 iterate 12 (all_goals((conv=>whnf);first|refine zG ?_|apply zA|intro h|exact zT|skip))
 ·exact iL hK (lU fun hn=>by have:=hn.1;simp_all)
 ·exact iL hK (lU fun hn=>by have:=hn.2.1;omega)
 ·exact iL hK (lU fun hn=>by have:=hn.2.2.1;simp_all)
 rename_i g1 g2;have g3:=h;have hp:=aDS g1;refine iA (j:=0) hp ?_;refine aBT hp fun c hc=>?_
 iterate 3 (all_goals((conv=>whnf);first|refine zG ?_|apply zA|intro h|exact zT|skip))
 ·exact iL hK (lU fun hn=>by have:=hn.2.2.2.1 c hc;unfold nmL at this;omega)
 refine iA (j:=0) hp ?_;refine aBU hc ?_
 iterate 3 (all_goals((conv=>whnf);first|refine zG ?_|apply zA|intro h|exact zT|skip))
 ·exact iL hK (lU fun hn=>by have:=hn.2.2.2.1 c hc;unfold nmL at this;omega)
 rename_i g4;have g5:=h;refine gM Nat (fun k=>⟨0,[],[(0,.v (.string s)),(3,.v (.int .i64 k))]⟩) (fun k=>k<=s.size/\∀(i:Nat) b,i<k->s[i]? =some b->nmC (b.toNat:Int)) (fun k=>s.size-k) 0 ?_ ?_ ?_
 ·exact⟨by omega,fun i b hi=>by omega⟩
 ·exact⟨[],rfl,⟨rfl,rfl,trivial⟩,trivial⟩
 ·intro k ⟨hk,hinv⟩;rcases aC k s.size with hkl|hkl
  ·obtain⟨b,hb⟩:∃b,s[k]? =some b:=⟨s[k],by simp[hkl]⟩
   iterate 40 (all_goals((conv=>whnf);first|(with_reducible first|refine iA hkl ?_|refine aBU hb ?_)|refine zG ?_|apply zA|intro h|exact zT|skip))
   all_goals first
    |(refine iL hK (lU fun hn=>?_)
      have:=hn.2.2.2.2 k b hb;unfold nmC at this;omega)
    |(refine⟨k+1,⟨by omega,fun i c hi hc=>?_⟩,by omega,⟨[],rfl,⟨rfl,rfl,trivial⟩,trivial⟩⟩
      rcases aC i k with h9|h9
      ·exact hinv i c h9 hc
      ·have:i=k:=by omega
       subst this;rw[hb]at hc;cases hc;unfold nmC;omega)
  ·iterate 12 (all_goals((conv=>whnf);first|refine zG ?_|apply zA|intro h|exact zT|skip))
   exact jU hK (nD ⟨g1,by omega,g3,fun b hb=>by rw[hc]at hb;cases hb;unfold nmL;omega,fun i b hb=>hinv i b (by
    rcases aC i s.size with h9|h9
    ·omega
    ·simp[h9]at hb) hb⟩)
theorem wG(s:ByteArray){K:KT}(hK:K (.sb (kW s)) []):AC 87 [.v (.string s)] [] K:=by
 refine gP (aHz rfl rfl ?_)
 iterate 16 (all_goals((conv=>whnf);first|refine zG ?_|apply zA|intro h|exact zT|skip))
 ·exact iL hK (lU fun hn=>by have:=hn.1;simp_all)
 ·exact iL hK (lU fun hn=>by have:=hn.2.1;omega)
 ·exact iL hK (lU fun hn=>by have:=hn.2.2.1;simp_all)
 rename_i g1 g2;have g3:=h;refine gM Nat (fun k=>⟨0,[],[(0,.v (.string s)),(3,.v (.int .i64 k))]⟩) (fun k=>k<=s.size/\∀(i:Nat) b,i<k->s[i]? =some b->nmC (b.toNat:Int)/\(i=0->nmL (b.toNat:Int))) (fun k=>s.size-k) 0 ?_ ?_ ?_
 ·exact⟨by omega,fun i b hi=>by omega⟩
 ·exact⟨[],rfl,⟨rfl,rfl,trivial⟩,trivial⟩
 ·intro k ⟨hk,hinv⟩;rcases aC k s.size with hkl|hkl
  ·obtain⟨b,hb⟩:∃b,s[k]? =some b:=⟨s[k],by simp[hkl]⟩
   iterate 50 (all_goals((conv=>whnf);first|(with_reducible first|refine iA hkl ?_|refine aBU hb ?_)|refine zG ?_|apply zA|intro h|exact zT|skip))
   all_goals first
    |(refine iL hK (lU fun hn=>?_)
      have h7:=hn.2.2.2.2 k b hb;have h8:=fun h0:k=0=>hn.2.2.2.1 b (h0▸hb);unfold nmC at h7;unfold nmL at h8;omega)
    |(refine⟨k+1,⟨by omega,fun i c hi hc=>?_⟩,by omega,⟨[],rfl,⟨rfl,rfl,trivial⟩,trivial⟩⟩
      rcases aC i k with h9|h9
      ·exact hinv i c h9 hc
      ·have:i=k:=by omega
       subst this;rw[hb]at hc;cases hc;unfold nmC nmL;omega)
  ·iterate 12 (all_goals((conv=>whnf);first|refine zG ?_|apply zA|intro h|exact zT|skip))
   have hall:∀(i:Nat) b,s[i]? =some b->nmC (b.toNat:Int)/\(i=0->nmL (b.toNat:Int)):=fun i b hb=>hinv i b (by
    rcases aC i s.size with h9|h9
    ·omega
    ·simp[h9]at hb) hb
   exact jU hK (nD ⟨g1,by omega,g3,fun b hb=>(hall 0 b hb).2 rfl,fun i b hb=>(hall i b hb).1⟩)
structure Dv where
 name:ByteArray
 cap:Int
 rg:Bool
 vol:Bool
 cls:ByteArray
structure Lk where
 a:Int
 b:Int
 cost:Int
structure Ed where
 name:ByteArray
 dev:Int
 zone:ByteArray
 pf:Pf
 pl:Bool
structure Tp where
 devs:List Dv
 links:List Lk
 edges:List Ed
 pools:List Pf
 tol:Int
abbrev tN(d:Dv):AV:=.agg [.v (.string d.name),.v (.int .i64 d.cap),.sb d.rg,.sb d.vol,.v (.string d.cls)]
abbrev Qq(l:Lk):AV:=.agg [.v (.int .i64 l.a),.v (.int .i64 l.b),.v (.int .i64 l.cost)]
abbrev mX(e:Ed):AV:=.agg [.v (.string e.name),.v (.int .i64 e.dev),.v (.string e.zone),.v (.int .u32 e.pf.addr),.v (.int .i64 e.pf.bits),.sb e.pl]
abbrev kB(t:Tp):AV:=.agg [.lst (t.devs.map tN),.lst (t.links.map Qq),.lst (t.edges.map mX),.lst (t.pools.map mT),.v (.int .i64 t.tol)]
def jJ{α:Type}(p:α->Bool)(l:List α):Int:=match l.findIdx? p with
 |some i=>(i:Int)
 |none=> -1
theorem jQ{α:Type}{p:α->Bool}{l:List α}{k:Nat}{x:α}(hx:l[k]? =some x)(hp:p x=true)(hn:∀(i:Nat) y,i<k->l[i]? =some y->p y=false):jJ p l=k:=by
 have hk:k<l.length:=(aP.1 hx).1;have:l.findIdx? p=some k:=by
  rw[dU];refine⟨hk,?_,fun j hj=>?_⟩
  ·rw[aE hk]at hx;rw[bG hx];exact hp
  ·have:=hn j _ hj (aE zo);simp[this]
 simp[jJ,this]
theorem jS{α:Type}{p:α->Bool}{l:List α}(hn:∀(i:Nat) y,l[i]? =some y->p y=false):jJ p l= -1:=by
 have:l.findIdx? p=none:=by
  rw[fR];intro x hx;obtain⟨i,hi⟩:=bM.1 hx;exact hn i x hi
 simp[jJ,this]
theorem jY{α:Type}{p:α->Bool}{l:List α}{k:Nat}{x:α}(hx:l[k]? =some x)(hp:p x=false)(hn:∀(i:Nat) y,i<k->l[i]? =some y->p y=false):∀(i:Nat) y,i<k+1->l[i]? =some y->p y=false:=by
 intro i y hi hy;rcases aC i k with h|h
 ·exact hn i y h hy
 ·have:i=k:=by omega
  subst this;rw[hx]at hy;cases hy;exact hp
theorem S4{α:Type}{Q:Nat->α->Prop}{l:List α}{k:Nat}(hk:l.length<=k)(hn:∀(i:Nat) y,i<k->l[i]? =some y->Q i y):∀(i:Nat) y,l[i]? =some y->Q i y:=fun i y hy=>hn i y (by have:=(aP.1 hy).1;omega) hy
abbrev iC:=@S4
theorem Zr{α:Type}{Q:Nat->α->Prop}{l:List α}{k:Nat}{x:α}(hx:l[k]? =some x)(hp:Q k x)(hn:∀(i:Nat) y,i<k->l[i]? =some y->Q i y):∀(i:Nat) y,i<k+1->l[i]? =some y->Q i y:=by
 intro i y hi hy;rcases aC i k with h|h
 ·exact hn i y h hy
 ·have:i=k:=by omega
  subst this;rw[hx]at hy;cases hy;exact hp
abbrev iD:=@Zr
theorem aAf(l:List Dv)(f:FuncId)(cs:List AV)(p:Dv->Bool)(hF:∀(x:Dv) (K:AV->List Vm.Obj->Prop),K (.sb (p x)) []->AC f [tN x,.fp cs] [] K)(hl:l.length<1000000){K:KT}(hK:K (.v (.int .i64 (jJ p l))) []):
  AC 282 [.lst (l.map tN),.fn (.func f) [] [.fp cs]] [] K:=by
 refine aGE rfl rfl ?_
 iterate 3 (all_goals((conv=>whnf);first|refine zG ?_|apply zA|intro h|exact zT|skip))
 refine gM Nat (fun k=>⟨0,[],[(0,.lst (l.map tN)),(1,.fn (.func f) [] [.fp cs]),(7,.v (.int .i64 (l.map tN).length)),(8,.v (.int .i64 k))]⟩) (fun k=>k<=l.length/\∀(i:Nat) y,i<k->l[i]? =some y->p y=false) (fun k=>l.length-k) 0 ?_ ?_ ?_
 ·exact⟨aO _,fun i y hi=>absurd hi (bC _)⟩
 ·exact⟨[],rfl,⟨rfl,rfl,rfl,rfl,trivial⟩,trivial⟩
 ·intro k ⟨hk,hinv⟩;rcases aC k l.length with hkl|hkl
  ·obtain⟨r,hr⟩:=gex hkl
   iterate 12 (all_goals((conv=>whnf);first|(with_reducible first|refine hZ hkl ?_|refine hU hr ?_|refine hF r _ ?_)|refine zG ?_|apply zA|intro h|exact zT|skip))
   ·rw[jQ hr h hinv]at hK;exact hK
   ·exact⟨k+1,⟨by omega,jY hr h hinv⟩,by omega,⟨[],rfl,⟨rfl,rfl,rfl,rfl,trivial⟩,trivial⟩⟩
  ·iterate 6 (all_goals((conv=>whnf);first|refine zG ?_|apply zA|intro h|exact zT|skip))
   rw[jS (iC hkl hinv)]at hK;exact hK
theorem Vl(l:List Ed)(f:FuncId)(cs:List AV)(p:Ed->Bool)(hF:∀(x:Ed) (K:AV->List Vm.Obj->Prop),K (.sb (p x)) []->AC f [mX x,.fp cs] [] K)(hl:l.length<1000000){K:KT}(hK:K (.v (.int .i64 (jJ p l))) []):
  AC 111 [.lst (l.map mX),.fn (.func f) [] [.fp cs]] [] K:=by
 refine Rr rfl rfl ?_
 iterate 3 (all_goals((conv=>whnf);first|refine zG ?_|apply zA|intro h|exact zT|skip))
 refine gM Nat (fun k=>⟨0,[],[(0,.lst (l.map mX)),(1,.fn (.func f) [] [.fp cs]),(7,.v (.int .i64 (l.map mX).length)),(8,.v (.int .i64 k))]⟩) (fun k=>k<=l.length/\∀(i:Nat) y,i<k->l[i]? =some y->p y=false) (fun k=>l.length-k) 0 ?_ ?_ ?_
 ·exact⟨aO _,fun i y hi=>absurd hi (bC _)⟩
 ·exact⟨[],rfl,⟨rfl,rfl,rfl,rfl,trivial⟩,trivial⟩
 ·intro k ⟨hk,hinv⟩;rcases aC k l.length with hkl|hkl
  ·obtain⟨r,hr⟩:=gex hkl
   iterate 12 (all_goals((conv=>whnf);first|(with_reducible first|refine hZ hkl ?_|refine hU hr ?_|refine hF r _ ?_)|refine zG ?_|apply zA|intro h|exact zT|skip))
   ·rw[jQ hr h hinv]at hK;exact hK
   ·exact⟨k+1,⟨by omega,jY hr h hinv⟩,by omega,⟨[],rfl,⟨rfl,rfl,rfl,rfl,trivial⟩,trivial⟩⟩
  ·iterate 6 (all_goals((conv=>whnf);first|refine zG ?_|apply zA|intro h|exact zT|skip))
   rw[jS (iC hkl hinv)]at hK;exact hK
theorem aQb(l:List Pf)(f:FuncId)(cs:List AV)(p:Pf->Bool)(hF:∀(x:Pf) (K:AV->List Vm.Obj->Prop),K (.sb (p x)) []->AC f [mT x,.fp cs] [] K)(hl:l.length<1000000){K:KT}(hK:K (.v (.int .i64 (jJ p l))) []):
  AC 285 [.lst (l.map mT),.fn (.func f) [] [.fp cs]] [] K:=by
 refine aNZ rfl rfl ?_
 iterate 3 (all_goals((conv=>whnf);first|refine zG ?_|apply zA|intro h|exact zT|skip))
 refine gM Nat (fun k=>⟨0,[],[(0,.lst (l.map mT)),(1,.fn (.func f) [] [.fp cs]),(7,.v (.int .i64 (l.map mT).length)),(8,.v (.int .i64 k))]⟩) (fun k=>k<=l.length/\∀(i:Nat) y,i<k->l[i]? =some y->p y=false) (fun k=>l.length-k) 0 ?_ ?_ ?_
 ·exact⟨aO _,fun i y hi=>absurd hi (bC _)⟩
 ·exact⟨[],rfl,⟨rfl,rfl,rfl,rfl,trivial⟩,trivial⟩
 ·intro k ⟨hk,hinv⟩;rcases aC k l.length with hkl|hkl
  ·obtain⟨r,hr⟩:=gex hkl
   iterate 12 (all_goals((conv=>whnf);first|(with_reducible first|refine hZ hkl ?_|refine hU hr ?_|refine hF r _ ?_)|refine zG ?_|apply zA|intro h|exact zT|skip))
   ·rw[jQ hr h hinv]at hK;exact hK
   ·exact⟨k+1,⟨by omega,jY hr h hinv⟩,by omega,⟨[],rfl,⟨rfl,rfl,rfl,rfl,trivial⟩,trivial⟩⟩
  ·iterate 6 (all_goals((conv=>whnf);first|refine zG ?_|apply zA|intro h|exact zT|skip))
   rw[jS (iC hkl hinv)]at hK;exact hK
def zM(x:Int):AV:=.v (.int .u64 x)
abbrev nM(l:List Int):AV:=.lst (l.map zM)
def ins:List Int->Int->List Int
 |[],v=>[v]
 |x::xs,v=>if x<v then x::ins xs v else if x=v then x::xs else v::x::xs
theorem Rc:∀(l:List Int) (v:Int) (k:Nat),(∀x,x∈l.take k->x<v)->ins l v=l.take k++ins (l.drop k) v
 |[],v,k,h=>by simp[ins]
 |x::xs,v,0,h=>by simp
 |x::xs,v,k+1,h=>by
  have hx:x<v:=h x zx;rw[List.take_succ_cons,List.drop_succ_cons,fY,<-Rc xs v k (fun y hy=>h y (by simp[hy]))];simp[ins,hx]
def insT(l:List Int)(v top:Int):List Int:=if top<v then l else ins l v
theorem c51(l:List Int)(v top:Int)(ht0:0<=top)(ht:top<=4294967295)(hl:l.length<1000000){K:KT}(hK:K (nM (insT l v top)) []):
  AC 295 [nM l,.v (.int .u64 v),.v (.int .u32 top)] [] K:=by
 refine aUY rfl rfl ?_;conv=>whnf
 refine xP (r:=top) zo zo zo ?_;conv=>whnf
 refine sH (fun h=>?_) (fun h=>?_)
 ·conv=>whnf
  rw[insT,aH h]at hK;exact hK
 ·rw[insT,aF h]at hK;conv=>whnf
  refine gM Nat (fun k=>⟨0,[],[(0,nM l),(1,.v (.int .u64 v)),(7,.v (.int .i64 k))]⟩) (fun k=>k<=l.length/\∀x,x∈l.take k->x<v) (fun k=>l.length-k) 0 ?_ ?_ ?_
  ·exact⟨by omega,by simp⟩
  ·exact⟨[],rfl,⟨rfl,rfl,rfl,trivial⟩,trivial⟩
  ·intro k ⟨hk,hinv⟩;have hk2:=Rc l v k hinv;conv=>whnf
   refine sH (fun h=>?_) (fun h=>?_)
   ·have hkl:k<l.length:=by simp at h;omega
    conv=>whnf
    refine hZ hkl ?_;refine oG hkl (fun x hx=>?_);conv=>whnf
    refine sH (fun h1=>?_) (fun h1=>?_)
    ·conv=>whnf
     refine jB (r:=((k+1:Nat):Int)) zo zo zo ?_;conv=>whnf
     refine⟨k+1,⟨by omega,?_⟩,by omega,⟨[],rfl,⟨rfl,rfl,rfl,trivial⟩,trivial⟩⟩;intro y hy;rw[bF,hx]at hy;simp only[eH,aY,aW]at hy;rcases hy with hy|rfl
     ·exact hinv y hy
     ·exact h1
    ·conv=>whnf
     refine aKe h ?_;conv=>whnf
     refine hZ hkl ?_;refine hU hx ?_;conv=>whnf
     refine sH (fun h2=>?_) (fun h2=>?_)
     ·conv=>whnf
      have e:ins l v=l:=by
       rw[hk2,bB hkl];have:l[k]=x:=by rw[aE hkl]at hx;exact bG hx
       rw[this,h2];simp only[ins,Int.lt_irrefl,if_false,if_true];rw[<-h2,<-this,<-bB hkl,cN]
      rw[e]at hK;exact hK
     ·conv=>whnf
      have fin:K (.lst ([]++(List.take (k-0) (List.drop 0 l)).map zM++[zM v]++(List.take (l.length-k) (List.drop k l)).map zM)) []:=by
       have e:[]++(List.take (k-0) (List.drop 0 l)).map zM++[zM v]++(List.take (l.length-k) (List.drop k l)).map zM=(ins l v).map zM:=by
        have e2:ins (l.drop k) v=v::l.drop k:=by
         rw[bB hkl];have:l[k]=x:=by rw[aE hkl]at hx;exact bG hx
         rw[this];simp only[ins,h1,h2,if_false]
        rw[hk2,e2];simp[aU]
       rw[e];exact hK
      (repeat' ((conv=>whnf);first|(with_reducible first|refine gZ 0 k rfl rfl zo (by simp;omega) ?_|refine gZ k l.length rfl zx zo zx ?_|refine mQ zo ?_|refine Ob.intro (fun x hx=>by obtain⟨y,_,rfl⟩:=bU.1 hx;rfl) ?_|refine Ob.intro zk ?_)|refine zG ?_|apply zA|intro h|exact zT));all_goals conv=>whnf
      all_goals exact fin
   ·(conv=>whnf)
    have hkl:k=l.length:=by simp at h;omega
    refine Z3 h ?_;(conv=>whnf)
    have fin:K (.lst ([]++(List.take (k-0) (List.drop 0 l)).map zM++[zM v]++(List.take (l.length-k) (List.drop k l)).map zM)) []:=by
     have e:[]++(List.take (k-0) (List.drop 0 l)).map zM++[zM v]++(List.take (l.length-k) (List.drop k l)).map zM=(ins l v).map zM:=by
      subst hkl;rw[hk2];simp[ins]
     rw[e];exact hK
    (repeat' ((conv=>whnf);first|(with_reducible first|refine gZ 0 k rfl rfl zo (by simp;omega) ?_|refine gZ k l.length rfl zx zo zx ?_|refine mQ zo ?_|refine Ob.intro (fun x hx=>by obtain⟨y,_,rfl⟩:=bU.1 hx;rfl) ?_|refine Ob.intro zk ?_)|refine zG ?_|apply zA|intro h|exact zT));all_goals conv=>whnf
    all_goals exact fin
end Go.Proofs.YtnomkooikbhgmaaGreatDoor
