/- The generator: topologies. -/
import Derived.Test.YtahhamfngafmcaaGreatDoorProg
import Derived.Test.YtahhamfngafmcaaGreatDoorM14
set_option linter.unusedVariables false
set_option linter.unusedSimpArgs false
set_option maxRecDepth 100000
set_option maxHeartbeats 4000000
namespace Go.Proofs.YtahhamfngafmcaaGreatDoor
open Go Go.Vm
theorem nNext(raw:List Int)(pos:Nat)(n:Int)(hn2:n<=9223372036854775807)(hp:pos<=raw.length)(hr:raw.length<=9223372036854775807){K:KT}
  (hK:∀(m pos':Nat),(m=0\/m<n)->pos'<=raw.length->K (.v (.int .i64 m)) [tapeO raw pos']):ACall Tryz.prog 12 [.op 0 0,.v (.int .i64 n)] [tapeO raw pos] K:=
 c13 raw pos n hn2 hp hr fun m pos' m0 m1 hp'=>by
  obtain⟨k,rfl⟩:=Int.eq_ofNat_of_zero_le m0
  exact hK k pos' (by omega) hp'
def subL:List Pf:=[⟨167772160,24,by decide,by decide⟩,⟨167772416,24,by decide,by decide⟩,⟨167772672,25,by decide,by decide⟩,⟨167772800,26,by decide,by decide⟩,⟨2886729728,16,by decide,by decide⟩,⟨3232237321,32,by decide,by decide⟩]
def noPf:Pf:=⟨0,0,by decide,by decide⟩
theorem ix_pfs{xs:List AV}{i:Nat}{K:AV->Prop}(L:List Pf)(n:Nat)(h:xs=L.map encP)(hn:L.length=n)(hi:i<n)(hk:K (encP (L.getD i noPf))):Ix xs i K:=by
 subst h;subst hn
 exact ix_map (List.getElem?_eq_getElem hi) (by rw[List.getD_eq_getElem?_getD,List.getElem?_eq_getElem hi]at hk;exact hk)
theorem nMod(x:Nat)(n:Int)(hx:x<n)(hn2:n<=9223372036854775807){K:KT}(hK:K (.v (.int .i64 x)) []):ACall Tryz.prog 43 [.v (.int .i64 x),.v (.int .i64 n)] [] K:=by
 refine of37 rfl rfl ?_
 (conv=>whnf)
 refine wr_u64 rfl (by omega) (by omega) ?_
 have m1:(x:Int).tmod n=x:=Int.tmod_eq_of_lt (by omega) (by omega)
 iterate 10 (all_goals((conv=>whnf);first|refine zG ?_|apply zA|(apply zI;intro h)|exact zT|skip))
 rw[m1]
 exact hK
theorem cnSub(n:Nat)(hn:n<6){K:KT}(hK:K (encP (subL.getD n noPf)) []):ACall Tryz.prog 31 [.v (.int .i64 n)] [] K:=by
 refine ofnSub rfl rfl ?_
 iterate 30 (all_goals((conv=>whnf);first|(with_reducible first|refine nMod n 6 (by omega) (by decide) ?_|refine in_nat hn ?_|refine ix_pfs subL 6 rfl rfl (by omega) ?_)|refine zG ?_|apply zA|(apply zI;intro h)|exact zT|skip))
 rw[Nat.zero_add]
 exact hK
structure GLk (n:Nat) (l:Lk):Prop where
 a0:0<=l.a
 ab:l.a<l.b
 bn:l.b<n
 cost:l.cost∈[1,2,3,1000]
theorem GLk.mono{n k:Nat}{l:Lk}(h:GLk n l)(hk:n<=k):GLk k l:=⟨h.a0,h.ab,by have:=h.bn;omega,h.cost⟩
noncomputable def compB(t:Tp):Bool:=topB t&& !(t.edges.any fun e=>e.pl)
theorem compB_iff{t:Tp}:compB t=true↔TopOk t/\∀e,e∈t.edges->e.pl=false:=by
 unfold compB
 rw[Bool.and_eq_true,topB_iff,Bool.not_eq_true',List.any_eq_false]
 exact⟨fun h=>⟨h.1,fun e he=>by simpa using h.2 e he⟩,fun h=>⟨h.1,fun e he=>by simpa using h.2 e he⟩⟩
theorem cixEdge0(l:List Ed)(f:FuncId)(p:Ed->Bool)(hF:∀(x:Ed) (K:AV->List Vm.Obj->Prop),K (.sb (p x)) []->ACall Tryz.prog f [encE x] [] K)(hl:l.length<1000000){K:KT}(hK:K (.v (.int .i64 (firstIx p l))) []):
  ACall Tryz.prog 133 [.lst (l.map encE),.fn (.func f) [] []] [] K:=by
 refine ofixEdge rfl rfl ?_
 (repeat' ((conv=>whnf);first|refine zG ?_|apply zA|(apply zI;intro h)|exact zT));(all_goals conv=>whnf)
 refine Lp.intro Nat (fun k=>⟨0,[],[(0,.lst (l.map encE)),(1,.fn (.func f) [] []),(7,.v (.int .i64 (l.map encE).length)),(8,.v (.int .i64 k))]⟩) (fun k=>k<=l.length/\∀(i:Nat) y,i<k->l[i]? =some y->p y=false) (fun k=>l.length-k) 0 ?_ ?_ ?_
 ·exact⟨Nat.zero_le _,fun i y hi=>absurd hi (Nat.not_lt_zero _)⟩
 ·(exact leA)
 ·intro k ⟨hk,hinv⟩
  rcases Nat.lt_or_ge k l.length with hkl|hkl
  ·obtain⟨r,hr⟩:=gex hkl
   (repeat' ((conv=>whnf);first|(with_reducible first|refine in_map hkl ?_|refine ix_map hr ?_|refine hF r _ ?_)|refine zG ?_|apply zA|(apply zI;intro h)|exact zT));(all_goals conv=>whnf)
   ·rw[firstIx_at hr h hinv]at hK;exact hK
   ·refine⟨k+1,⟨by omega,before_succ hr h hinv⟩,by omega,?_⟩
    rw[Int.natCast_add,Int.natCast_one]
    (exact leA)
  ·(repeat' ((conv=>whnf);first|refine zG ?_|apply zA|(apply zI;intro h)|exact zT));(all_goals conv=>whnf)
   rw[firstIx_none (before_all hkl hinv)]at hK
   exact hK
theorem firstIx_any{α:Type}(p:α->Bool)(l:List α):decide (0<=firstIx p l)=l.any p:=by
 rw[Bool.eq_iff_iff,List.any_eq_true,decide_eq_true_eq]
 constructor
 ·intro h
  unfold firstIx at h
  split at h
  ·rename_i i hi
   rw[List.findIdx?_eq_some_iff_getElem]at hi
   obtain⟨h1,h2,_⟩:=hi
   exact⟨_,List.getElem_mem h1,h2⟩
  ·omega
 ·rintro⟨x,hx,hp⟩
  unfold firstIx
  split
  ·omega
  ·rename_i hn
   rw[List.findIdx?_eq_none_iff]at hn
   have:=hn x hx
   simp_all
theorem ctCom1(e:Ed){K:KT}(hK:K (.sb e.pl) []):ACall Tryz.prog 74 [encE e] [] K:=by
 refine oftCom1 rfl rfl ?_
 (repeat' ((conv=>whnf);first|refine zG ?_|apply zA|(apply zI;intro h)|exact zT));(all_goals conv=>whnf)
 exact hK
theorem canyEdge(l:List Ed)(hl:l.length<1000000){K:KT}(hK:K (.sb (l.any fun e=>e.pl)) []):
  ACall Tryz.prog 73 [.lst (l.map encE),.fn (.func 74) [] []] [] K:=by
 refine ACall.bool (ofanyEdge rfl rfl ?_)
 (repeat' ((conv=>whnf);first|(with_reducible refine cixEdge0 _ _ (fun e=>e.pl) (fun x K h=>ctCom1 x h) hl ?_)|refine zG ?_|apply zA|(apply zI;intro h)|exact zT));(all_goals conv=>whnf)
 exact fin_s hK (firstIx_any _ _).symm
theorem ctComp(t:Tp)(hl:t.edges.length<1000000){K:KT}(hK:K (.sb (compB t)) []):ACall Tryz.prog 44 [encT t] [] K:=by
 refine ACall.bool (oftComp rfl rfl ?_)
 unfold compB at hK
 (repeat' ((conv=>whnf);first|(with_reducible first|refine ctVal t ?_|refine canyEdge t.edges hl ?_)|refine zG ?_|apply zA|(apply zI;intro h)|exact zT));(all_goals conv=>whnf)
 ·exact fin_s hK (by rw[h];rfl)
 ·exact fin_f hK (by rw[h];rfl)
structure Insp where
 cls:ByteArray
 set:List Bx
structure Pol where
 allow:List Bx
 insp:List Insp
def whoB(p q:Pf):Bx:=⟨p.rg,q.rg,fullB.r2,fullB.r3,fullB.r4⟩
def pairsAt(es:List Ed)(a:Nat)(ea:Ed)(n:Nat):List Bx:=((es.take n).zipIdx.filter fun q=>decide (a≠q.2)).map fun q=>whoB ea.pf q.1.pf
def pairsTo(es:List Ed)(n:Nat):List Bx:=((es.take n).zipIdx).flatMap fun q=>pairsAt es q.2 q.1 es.length
def pairsB(es:List Ed):List Bx:=pairsTo es es.length
theorem combP_set{op:Bool->Bool->Bool}{a b:List Bx}(ha:setB a=true)(hb:setB b=true):combP op a b=(limP (cano op 5 a b),limE (cano op 5 a b)):=by
 unfold combP givP
 simp[ha,hb]
theorem cano_ext2(op op':Bool->Bool->Bool):∀(k:Nat) (a b a' b':List Bx),k<=5->(∀p,InP p->op (memK p k a) (memK p k b)=op' (memK p k a') (memK p k b'))->cano op k a b=cano op' k a' b'
 |0,a,b,a',b',_,h=>by
  have h1:=h _ inP_zero
  rw[memK_zero,memK_zero,memK_zero,memK_zero]at h1
  rw[cano,cano,h1]
 |k+1,a,b,a',b',hk,h=>by
  have g:=cano_ginv op k a b (starts_cuts _ (topF_pos (4-k)).1)
  have g':=cano_ginv op' k a' b' (starts_cuts _ (topF_pos (4-k)).1)
  have part:∀v,0<=v->v<topF (4-k)+1->∀p,InP p->op (memK p k (atF (4-k) v a)) (memK p k (atF (4-k) v b))=op' (memK p k (atF (4-k) v a')) (memK p k (atF (4-k) v b')):=by
   intro v v0 v1 p hp
   have hq:InP (fun f=>if f=4-k then v else p f):=fun f=>by
    by_cases e:f=4-k
    ·simp only[e,if_true];omega
    ·simp only[e,if_false];exact hp f
   have h:=h _ hq
   rw[memK_succ,memK_succ,memK_succ,memK_succ,if_pos rfl]at h
   have e:∀c:List Bx,memK p k (atF (4-k) v c)=memK (fun f=>if f=4-k then v else p f) k (atF (4-k) v c):=fun c=>memK_congr (by omega) fun f hf h5=>by rw[if_neg (by omega)]
   rw[e,e,e,e,h]
  have hR:∀v,0<=v->v<topF (4-k)+1->restAt op k a b v=restAt op' k a' b' v:=fun v v0 v1=>
   cano_ext2 op op' k _ _ _ _ (by omega) (part v v0 v1)
  rw[cano_succ,cano_succ,(g.congr hR).same g']
theorem memK_nil{p:Nat->Int}{k:Nat}:memK p k []=false:=rfl
theorem cano_same(op:Bool->Bool->Bool)(a b:List Bx):cano orB 5 (cano op 5 a b) []=cano op 5 a b:=
 cano_ext2 orB op 5 _ _ _ _ (Nat.le_refl _) fun p hp=>by rw[cano_mem op hp 5 a b (Nat.le_refl _),memK_nil,orB,Bool.or_false]
theorem okL_bx{l:List Bx}(h:okL l):∀x,x∈l->x.ok:=fun x hx=>⟨h x hx 0 (by omega),h x hx 1 (by omega),h x hx 2 (by omega),h x hx 3 (by omega),h x hx 4 (by omega)⟩
theorem vld_all{l:List Bx}(h:okL l):vldB l=l:=List.filter_eq_self.2 fun x hx=>by simpa using okL_bx h x hx
theorem setB_cano{op:Bool->Bool->Bool}{a b:List Bx}(h:(cano op 5 a b).length<=4096):setB (cano op 5 a b)=true:=by
 have ho:=okL_cano op a b
 unfold setB
 rw[vld_all ho]
 simp only[Bool.and_eq_true,decide_eq_true_eq,true_and]
 refine⟨h,(canB_iff 5 _ (Nat.le_refl _) (fun x hx f hf _=>ho x hx f hf) (by omega)).2 ?_⟩
 rw[cano_same]
 exact((List.map_congr_left fun x _=>zeroTo_five x).trans (List.map_id _)).symm
theorem setB_nil:setB []=true:=by decide+kernel
theorem setB_lim(op:Bool->Bool->Bool)(a b:List Bx):setB (limP (cano op 5 a b))=true:=by
 unfold limP;split
 ·exact setB_nil
 ·exact setB_cano (by omega)
theorem setB_makeGo:∀(l s:List Bx),setB s=true->setB (makeGo s l).1=true
 |[],s,h=>h
 |b::l,s,h=>by
  rw[makeGo]
  split
  ·split
   ·exact setB_nil
   ·exact setB_makeGo l _ (setB_cano (by unfold addO at*;omega))
  ·exact setB_makeGo l s h
theorem setB_makeP(l:List Bx):setB (makeP l).1=true:=setB_makeGo l [] setB_nil
theorem setB_combP(op:Bool->Bool->Bool)(a b:List Bx):setB (combP op a b).1=true:=by
 unfold combP;split
 ·exact setB_nil
 ·split
  ·exact setB_nil
  ·exact setB_lim ..
theorem combP_mem{op:Bool->Bool->Bool}{a b:List Bx}(ha:setB a=true)(hb:setB b=true)(he:(combP op a b).2=0){p:Nat->Int}(hp:InP p):memK p 5 (combP op a b).1=op (memK p 5 a) (memK p 5 b):=by
 rw[combP_set ha hb]at he⊢
 simp only at he⊢
 have:(cano op 5 a b).length<=4096:=by
  have:=mt limE_ne.2 (fun h=>h he);omega
 rw[limP,if_neg (by omega),cano_mem op hp 5 a b (Nat.le_refl _)]
theorem vldB_cons(b:Bx)(l:List Bx):vldB (b::l)=if b.ok then b::vldB l else vldB l:=by
 unfold vldB
 by_cases h:b.ok
 ·rw[List.filter_cons_of_pos (by simpa using h),if_pos h]
 ·rw[List.filter_cons_of_neg (by simpa using h),if_neg h]
/-! texts in their order -/
def ltS(s t:ByteArray):Bool:=Op.bytesLess s.toList t.toList
theorem bl_trans:∀(a b c:List UInt8),Op.bytesLess a b=true->Op.bytesLess b c=true->Op.bytesLess a c=true
 |_,_,[],_,h=>by simp[Op.bytesLess]at h
 |[],_,_::_,_,_=>by simp[Op.bytesLess]
 |_::_,[],_,h,_=>by simp[Op.bytesLess]at h
 |a::x,b::y,c::z,h,h'=>by
  simp only[Op.bytesLess,Bool.or_eq_true,Bool.and_eq_true,decide_eq_true_eq,beq_iff_eq]at h h'⊢
  rcases h with h|⟨rfl,h⟩<;>rcases h' with h'|⟨rfl,h'⟩
  ·exact .inl (UInt8.lt_trans h h')
  ·exact .inl h
  ·exact .inl h'
  ·exact .inr ⟨rfl,bl_trans x y z h h'⟩
theorem bl_total:∀(a b:List UInt8),Op.bytesLess a b=false->(a==b)=false->Op.bytesLess b a=true
 |[],[],_,h=>by simp at h
 |[],_::_,h,_=>by simp[Op.bytesLess]at h
 |_::_,[],_,_=>by simp[Op.bytesLess]
 |a::x,b::y,h,h'=>by
  simp only[Op.bytesLess,Bool.or_eq_false_iff,Bool.and_eq_false_iff,decide_eq_false_iff_not,beq_eq_false_iff_ne,ne_eq]at h
  simp only[Op.bytesLess,Bool.or_eq_true,Bool.and_eq_true,decide_eq_true_eq,beq_iff_eq]
  obtain⟨h1,h2⟩:=h
  by_cases e:a=b
  ·subst e
   refine .inr ⟨rfl,bl_total x y ?_ ?_⟩
   ·rcases h2 with h2|h2
    ·exact absurd rfl h2
    ·simpa using h2
   ·simpa using h'
  ·refine .inl ?_
   have h1':¬a.toNat<b.toNat:=fun h=>h1 (UInt8.lt_iff_toNat_lt.2 h)
   have:a.toNat≠b.toNat:=fun h=>e (UInt8.toNat_inj.1 h)
   exact UInt8.lt_iff_toNat_lt.2 (by omega)
/-! the policy of an intent, step by step -/
def realM(t:Tp)(q:Nat->Int):Prop:=memK q 5 (vldB (pairsB t.edges))=true/\memK q 5 initS=true
structure AtInv (t:Tp) (rest:List Bx) (p:Pol):Prop where
 rs:setB rest=true
 al:setB p.allow=true
 rr:∀q,InP q->memK q 5 rest=true->realM t q
 ar:∀q,InP q->memK q 5 p.allow=true->realM t q
 dj:∀q,InP q->memK q 5 rest=true->memK q 5 p.allow=false
 nm:∀x,x∈p.insp->nameOk x.cls
 ne:∀x,x∈p.insp->x.set≠[]
 st:∀x,x∈p.insp->setB x.set=true
 sb:∀x,x∈p.insp->∀q,InP q->memK q 5 x.set=true->memK q 5 p.allow=true
 ds:p.insp.Pairwise fun x y=>∀q,InP q->memK q 5 x.set=true->memK q 5 y.set=false
 od:p.insp.Pairwise fun x y=>ltS x.cls y.cls=true
inductive PutR (l:List Insp) (c:ByteArray) (s:List Bx):List Insp->Int->Prop
 |skip:(c.toList=[]\/s=[])->PutR l c s l 0
 |ins (k:Nat):c.toList≠[]->s≠[]->k<=l.length->(∀(j:Nat) y,j<k->l[j]? =some y->ltS y.cls c=true)->(∀y,l[k]? =some y->ltS y.cls c=false/\(y.cls.toList==c.toList)=false)->PutR l c s (l.take k++⟨c,s⟩::l.drop k) 0
 |uni (k:Nat) (y:Insp):c.toList≠[]->s≠[]->l[k]? =some y->(y.cls.toList==c.toList)=true->PutR l c s (l.set k ⟨y.cls,(combP orB y.set s).1⟩) (combP orB y.set s).2
theorem AtInv.permit{t:Tp}{rest s:List Bx}{p:Pol}{c:ByteArray}{l':List Insp}{e:Int}(h:AtInv t rest p)(hs:setB s=true)(hc:c.toList=[]\/nameOk c)(e1:(combP anB rest s).2=0)
  (e2:(combP woB rest s).2=0)(e3:(combP orB p.allow (combP anB rest s).1).2=0)(hp:PutR p.insp c (combP anB rest s).1 l' e)(he:e=0):
  AtInv t (combP woB rest s).1 ⟨(combP orB p.allow (combP anB rest s).1).1,l'⟩:=by
 have hps:setB (combP anB rest s).1=true:=setB_combP ..
 have hpm:∀q,InP q->memK q 5 (combP anB rest s).1=(memK q 5 rest&&memK q 5 s):=fun q hq=>by rw[combP_mem h.rs hs e1 hq];rfl
 have hrm:∀q,InP q->memK q 5 (combP woB rest s).1=(memK q 5 rest&& !memK q 5 s):=fun q hq=>by rw[combP_mem h.rs hs e2 hq];rfl
 have ham:∀q,InP q->memK q 5 (combP orB p.allow (combP anB rest s).1).1=(memK q 5 p.allow||memK q 5 (combP anB rest s).1):=fun q hq=>by rw[combP_mem h.al hps e3 hq];rfl
 have hdis:∀x,x∈p.insp->∀q,InP q->memK q 5 (combP anB rest s).1=true->memK q 5 x.set=false:=fun x hx q hq h1=>by
  rw[hpm q hq]at h1
  simp only[Bool.and_eq_true]at h1
  rw[Bool.eq_false_iff]
  intro h2
  have:=h.dj q hq h1.1
  rw[h.sb x hx q hq h2]at this
  cases this
 have hsb:∀x,x∈p.insp->∀q,InP q->memK q 5 x.set=true->memK q 5 (combP orB p.allow (combP anB rest s).1).1=true:=fun x hx q hq h1=>by
  rw[ham q hq,h.sb x hx q hq h1];rfl
 have hpb:∀q,InP q->memK q 5 (combP anB rest s).1=true->memK q 5 (combP orB p.allow (combP anB rest s).1).1=true:=fun q hq h1=>by rw[ham q hq,h1,Bool.or_true]
 have f1:setB (combP woB rest s).1=true:=setB_combP ..
 have f2:setB (combP orB p.allow (combP anB rest s).1).1=true:=setB_combP ..
 have f3:∀q,InP q->memK q 5 (combP woB rest s).1=true->realM t q:=fun q hq h1=>by
  rw[hrm q hq]at h1
  simp only[Bool.and_eq_true]at h1
  exact h.rr q hq h1.1
 have f4:∀q,InP q->memK q 5 (combP orB p.allow (combP anB rest s).1).1=true->realM t q:=fun q hq h1=>by
  rw[ham q hq,hpm q hq]at h1
  simp only[Bool.or_eq_true,Bool.and_eq_true]at h1
  rcases h1 with h1|h1
  ·exact h.ar q hq h1
  ·exact h.rr q hq h1.1
 have f5:∀q,InP q->memK q 5 (combP woB rest s).1=true->memK q 5 (combP orB p.allow (combP anB rest s).1).1=false:=fun q hq h1=>by
  rw[hrm q hq]at h1
  simp only[Bool.and_eq_true,Bool.not_eq_true']at h1
  rw[ham q hq,hpm q hq,h.dj q hq h1.1,h1.2,Bool.and_false];rfl
 cases hp with
 |skip h0=>exact⟨f1,f2,f3,f4,f5,h.nm,h.ne,h.st,hsb,h.ds,h.od⟩
 |ins k h0 h1 hk hlt hge=>
  have hmem:∀x,x∈p.insp.take k++⟨c,(combP anB rest s).1⟩::p.insp.drop k->x∈p.insp\/x=⟨c,(combP anB rest s).1⟩:=fun x hx=>by
   rcases List.mem_append.1 hx with hx|hx
   ·exact .inl (List.mem_of_mem_take hx)
   ·rcases List.mem_cons.1 hx with hx|hx
    ·exact .inr hx
    ·exact .inl (List.mem_of_mem_drop hx)
  have hall:∀(Q:Insp->Prop),(∀x,x∈p.insp->Q x)->Q ⟨c,(combP anB rest s).1⟩->∀x,x∈p.insp.take k++⟨c,(combP anB rest s).1⟩::p.insp.drop k->Q x:=fun Q g1 g2 x hx=>by
   rcases hmem x hx with hx|rfl
   ·exact g1 x hx
   ·exact g2
  have hpw:∀(R:Insp->Insp->Prop),p.insp.Pairwise R->(∀x,x∈p.insp.take k->R x ⟨c,(combP anB rest s).1⟩)->(∀x,x∈p.insp.drop k->R ⟨c,(combP anB rest s).1⟩ x)->(p.insp.take k++⟨c,(combP anB rest s).1⟩::p.insp.drop k).Pairwise R:=fun R g g1 g2=>by
   rw[<-List.take_append_drop k p.insp]at g
   rw[List.pairwise_append]at g⊢
   refine⟨g.1,List.pairwise_cons.2 ⟨g2,g.2.1⟩,fun a ha b hb=>?_⟩
   rcases List.mem_cons.1 hb with rfl|hb
   ·exact g1 a ha
   ·exact g.2.2 a ha b hb
  refine⟨f1,f2,f3,f4,f5,hall _ h.nm (hc.resolve_left h0),hall (fun x=>x.set≠[]) h.ne h1,hall (fun x=>setB x.set=true) h.st hps,hall (fun x=>∀q,InP q->memK q 5 x.set=true->_) hsb hpb,?_,?_⟩
  ·refine hpw _ h.ds (fun x hx q hq h2=>?_) (fun x hx q hq h2=>hdis x (List.mem_of_mem_drop hx) q hq h2)
   rw[Bool.eq_false_iff]
   intro h3
   rw[hdis x (List.mem_of_mem_take hx) q hq h3]at h2
   cases h2
  ·refine hpw _ h.od (fun x hx=>?_) (fun x hx=>?_)
   ·obtain⟨j,hj⟩:=List.mem_iff_getElem?.1 hx
    rw[List.getElem?_take]at hj
    split at hj
    ·exact hlt j x (by assumption) hj
    ·cases hj
   ·obtain⟨j,hj⟩:=List.mem_iff_getElem?.1 hx
    rw[List.getElem?_drop]at hj
    obtain⟨y,hy⟩:∃y,p.insp[k]? =some y:=⟨_,List.getElem?_eq_getElem (by have:=(List.getElem?_eq_some_iff.1 hj).1;omega)⟩
    obtain⟨g1,g2⟩:=hge y hy
    have hcy:ltS c y.cls=true:=bl_total _ _ g1 g2
    rcases Nat.eq_zero_or_pos j with rfl|hj0
    ·rw[Nat.add_zero,hy]at hj
     cases hj;exact hcy
    ·have:=List.pairwise_iff_getElem.1 h.od k (k+j) (List.getElem?_eq_some_iff.1 hy).1 (List.getElem?_eq_some_iff.1 hj).1 (by omega)
     rw[(List.getElem?_eq_some_iff.1 hy).2,(List.getElem?_eq_some_iff.1 hj).2]at this
     exact bl_trans _ _ _ hcy this
 |uni k y h0 h1 hk hy=>
  have hym:y∈p.insp:=List.mem_of_getElem? hk
  have hum:∀q,InP q->memK q 5 (combP orB y.set (combP anB rest s).1).1=(memK q 5 y.set||memK q 5 (combP anB rest s).1):=fun q hq=>by rw[combP_mem (h.st y hym) hps he hq];rfl
  have hall:∀(Q:Insp->Prop),(∀x,x∈p.insp->Q x)->Q ⟨y.cls,(combP orB y.set (combP anB rest s).1).1⟩->∀x,x∈p.insp.set k ⟨y.cls,(combP orB y.set (combP anB rest s).1).1⟩->Q x:=fun Q g1 g2 x hx=>by
   rcases List.mem_or_eq_of_mem_set hx with hx|rfl
   ·exact g1 x hx
   ·exact g2
  have hkl:=(List.getElem?_eq_some_iff.1 hk).1
  have hke:=(List.getElem?_eq_some_iff.1 hk).2
  have hpw:∀(R:Insp->Insp->Prop),p.insp.Pairwise R->(∀x,x∈p.insp->R x y->R x ⟨y.cls,(combP orB y.set (combP anB rest s).1).1⟩)->(∀x,x∈p.insp->R y x->R ⟨y.cls,(combP orB y.set (combP anB rest s).1).1⟩ x)->(p.insp.set k ⟨y.cls,(combP orB y.set (combP anB rest s).1).1⟩).Pairwise R:=fun R g g1 g2=>by
   rw[List.pairwise_iff_getElem]at g⊢
   intro i j hi hj hij
   rw[List.length_set]at hi hj
   rw[List.getElem_set,List.getElem_set]
   by_cases e1:k=i
   ·rw[if_pos e1,if_neg (by omega)]
    refine g2 _ (List.getElem_mem _) ?_
    subst e1
    have:=g k j hi hj hij
    rwa[hke]at this
   ·rw[if_neg e1]
    by_cases e2:k=j
    ·rw[if_pos e2]
     refine g1 _ (List.getElem_mem _) ?_
     subst e2
     have:=g i k hi hj hij
     rwa[hke]at this
    ·rw[if_neg e2];exact g i j hi hj hij
  refine⟨f1,f2,f3,f4,f5,hall _ h.nm (h.nm y hym),hall (fun x=>x.set≠[]) h.ne ?_,hall (fun x=>setB x.set=true) h.st (setB_combP ..),hall (fun x=>∀q,InP q->memK q 5 x.set=true->_) hsb ?_,?_,?_⟩
  ·intro e0
   simp only at e0
   have:∀q,InP q->memK q 5 y.set=false:=fun q hq=>by
    have:=hum q hq
    rw[e0,memK_nil]at this
    cases hy:memK q 5 y.set
    ·rfl
    ·rw[hy]at this;cases this
   obtain⟨b,hb⟩:=List.exists_mem_of_ne_nil _ (h.ne y hym)
   obtain⟨q,hq,hqb⟩:=box_point (okL_set (h.st y hym) b hb)
   have h3:=this q hq
   rw[memK_iff.2 ⟨b,hb,hqb⟩]at h3
   cases h3
  ·intro q hq h2
   simp only at h2
   rw[hum q hq,Bool.or_eq_true]at h2
   rcases h2 with h2|h2
   ·exact hsb y hym q hq h2
   ·exact hpb q hq h2
  ·refine hpw _ h.ds (fun x hx hr q hq h2=>?_) (fun x hx hr q hq h2=>?_)
   ·simp only
    rw[hum q hq,hr q hq h2,Bool.false_or,Bool.eq_false_iff]
    intro h3
    rw[hdis x hx q hq h3]at h2
    cases h2
   ·simp only at h2
    rw[hum q hq,Bool.or_eq_true]at h2
    rcases h2 with h2|h2
    ·exact hr q hq h2
    ·exact hdis x hx q hq h2
  ·exact hpw _ h.od (fun x hx hr=>hr) (fun x hx hr=>hr)
theorem init_set:setB initS=true:=by decide+kernel
def realP(t:Tp):List Bx×Int:=if(makeP (pairsB t.edges)).2≠0 then([],(makeP (pairsB t.edges)).2)else combP anB (makeP (pairsB t.edges)).1 initS
structure It where
 kind:Int
 name:ByteArray
 pf:Pf
 proto:Int
 ports:Rg
structure Df where
 name:ByteArray
 items:List It
structure Wn where
 name:ByteArray
 act:List Rg
structure Sm where
 permit:Bool
 frm:ByteArray
 to:ByteArray
 svc:ByteArray
 exc:Bool
 exF:ByteArray
 exT:ByteArray
 cls:ByteArray
 dur:ByteArray
 pri:Int
structure Pb where
 addr:Int
 proto:Int
 port:Int
 edge:ByteArray
 real:Int
 rport:Int
structure Hn where
 grp:ByteArray
 edge:ByteArray
 addr:Int
 ports:Rg
structure Nt where
 grps:List Df
 svcs:List Df
 wins:List Wn
 sts:List Sm
 pubs:List Pb
 hids:List Hn
noncomputable abbrev encIt(x:It):AV:=.agg [.v (.int .i64 x.kind),.v (.string x.name),.v (.int .u32 x.pf.addr),.v (.int .i64 x.pf.bits),.v (.int .i64 x.proto),.v (.int .u32 x.ports.lo),.v (.int .u32 x.ports.hi)]
noncomputable abbrev encDf(x:Df):AV:=.agg [.v (.string x.name),.lst (x.items.map encIt)]
noncomputable abbrev encWn(x:Wn):AV:=.agg [.v (.string x.name),encRs x.act]
noncomputable abbrev encSm(x:Sm):AV:=.agg [.sb x.permit,.v (.string x.frm),.v (.string x.to),.v (.string x.svc),.sb x.exc,.v (.string x.exF),.v (.string x.exT),.v (.string x.cls),.v (.string x.dur),.v (.int .i64 x.pri)]
noncomputable abbrev encPb(x:Pb):AV:=.agg [.v (.int .u32 x.addr),.v (.int .i64 x.proto),.v (.int .i64 x.port),.v (.string x.edge),.v (.int .u32 x.real),.v (.int .i64 x.rport)]
noncomputable abbrev encHn(x:Hn):AV:=.agg [.v (.string x.grp),.v (.string x.edge),.v (.int .u32 x.addr),.v (.int .u32 x.ports.lo),.v (.int .u32 x.ports.hi)]
noncomputable abbrev celNt(i:Nt):List AV:=[.lst (i.grps.map encDf),.lst (i.svcs.map encDf),.lst (i.wins.map encWn),.lst (i.sts.map encSm),.lst (i.pubs.map encPb),.lst (i.hids.map encHn)]
noncomputable abbrev encNt(i:Nt):AV:=.agg (celNt i)
noncomputable abbrev boxNt(i:Nt):Vm.Obj:=.box (celNt i)
end Go.Proofs.YtahhamfngafmcaaGreatDoor
