/- An abstract machine over the loaded code: structs compared. -/
import Derived.ChangeKeysEq
import Derived.Test.YtokmdghjgegclaaGreatDoorM11
set_option linter.unusedVariables false
set_option linter.unusedSimpArgs false
set_option maxRecDepth 100000
set_option maxHeartbeats 4000000
namespace Go.Vm
def partV(P:Program)(t:TypeId)(xs:List Value)(off:Nat):Option Value:=
 match tagg P t with
 |some true=>(match tsz P t with
  |some n=>some (.agg ((xs.drop off).take n).toArray)
  |none=>none)
 |some false=>xs[off]?
 |none=>none
def eqT(P:Program):Nat->TypeId->Value->Value->Option Bool
 |0,_,_,_=>none
 |d+1,t,x,y=>match P.underlying t with
  |some (.int _)=>(match x,y with
   |.int k a,.int k' b=>(match kEq k k' with
    |true=>some (a==b)
    |false=>none)
   |_,_=>none)
  |some .bool=>(match x,y with
   |.bool a,.bool b=>some (a==b)
   |_,_=>none)
  |some .string=>(match x,y with
   |.string a,.string b=>some (a.toList==b.toList)
   |_,_=>none)
  |some (.struct fs)=>(match P.stoodInHeld t,x,y with
   |false,.agg xs,.agg ys=>eqFs (fun t a b=>eqT P d t a b) xs.toList ys.toList fs.toList
   |_,_,_=>none)
  |some (.array n e)=>(match tsz P e,x,y with
   |some m,.agg xs,.agg ys=>eqIs (fun a b=>eqT P d e a b) e m xs.toList ys.toList (List.range n)
   |_,_,_=>none)
  |_=>none
where
 eqIs (e:Value->Value->Option Bool) (el:TypeId) (m:Nat) (xs ys:List Value):List Nat->Option Bool
  |[]=>some true
  |i::r=>(match partV P el xs (i*m),partV P el ys (i*m)with
   |some a,some b=>(match e a b,eqIs e el m xs ys r with
    |some p,some q=>some (p&&q)
    |_,_=>none)
   |_,_=>none)
 eqFs (e:TypeId->Value->Value->Option Bool) (xs ys:List Value):List Field->Option Bool
  |[]=>some true
  |f::r=>match f.name== "_" with
   |true=>eqFs e xs ys r
   |false=>(match partV P f.type xs f.offset,partV P f.type ys f.offset with
    |some a,some b=>(match e f.type a b,eqFs e xs ys r with
     |some p,some q=>some (p&&q)
     |_,_=>none)
    |_,_=>none)
section
variable {P:Program}
theorem partV_run{t:TypeId}{xs:Array Value}{off:Nat}{v:Value}(h:partV P t xs.toList off=some v)(w:World):(part t xs off).run P w=.ok v w:=by
 unfold partV at h
 split at h
 ·rename_i ht
  split at h
  ·rename_i n hn
   cases h
   have e:(xs.extract off (off+n))=((xs.toList.drop off).take n).toArray:=by
    apply Array.ext'
    rw[Array.toList_extract]
    simp[List.extract]
   simp[part,run_isAgg ht,tsz_spec hn,e]
  ·cases h
 ·rename_i ht
  have h':xs[off]? =some v:=by simpa using h
  simp[part,run_isAgg ht,h']
 ·cases h
theorem eqT_run:∀(d:Nat) {t:TypeId} {x y:Value} {b:Bool},eqT P d t x y=some b->∀(D:Nat) (w:World),d<=D->(Op.equalIn D t x y).run P w=.ok b w
 |0,t,x,y,b,h=>by simp[eqT]at h
 |d+1,t,x,y,b,h=>by
  intro D w hD
  obtain⟨D,rfl⟩:∃k,D=k+1:=⟨D-1,by omega⟩
  simp only[eqT]at h
  split at h
  ·rename_i q hu
   split at h
   ·split at h
    ·rename_i hk
     cases kEq_eq hk
     cases h
     exact run_equalIn_int w D t _ _ _ _ hu
    ·cases h
   ·cases h
  ·rename_i hu
   split at h
   ·cases h;exact run_equalIn_bool' w D t _ _ hu
   ·cases h
  ·rename_i hu
   split at h
   ·cases h;exact run_equalIn_string w D t _ _ hu
   ·cases h
  ·rename_i fs hu
   split at h
   ·rename_i xs ys hs
    have hf:P.fieldsOf t=fs:=by simp[Program.fieldsOf,hu]
    rw[run_equalIn_struct w D t xs ys (by rw[hf];exact hu) hs,hf]
    have go:∀(l:List Field) (b:Bool),eqT.eqFs P (fun t a b=>eqT P d t a b) xs.toList ys.toList l=some b->(Op.eqFields D xs ys l).run P w=.ok b w:=by
     intro l
     induction l with
     |nil=>intro b h;simp only[eqT.eqFs,Option.some.injEq]at h;subst h;simp[Op.eqFields]
     |cons f r ih=>
      intro b h
      simp only[eqT.eqFs]at h
      split at h
      ·rename_i hn
       have hn:f.name= "_":=by simpa using hn
       simp only[Op.eqFields,hn,ne_eq,not_true_eq_false,if_false]
       exact ih b h
      ·rename_i hn
       have hn:f.name≠ "_":=by simpa using hn
       split at h
       case h_2=>cases h
       rename_i a c ha hc
       split at h
       case h_2=>cases h
       rename_i p q hp hq
       cases h
       simp only[Op.eqFields,ne_eq,hn,not_false_eq_true,if_true,Sem.run_bind,partV_run ha w,partV_run hc w,Result.andThen_ok,eqT_run d hp D w (by omega),Sem.run_ite,Sem.run_pure]
       cases p
       ·simp
       ·simpa using ih q hq
    exact go _ _ h
   ·cases h
  ·rename_i n e hu
   split at h
   ·rename_i m xs ys hm
    obtain⟨i,hi,him⟩:∃i,P.info? e=some i/\i.size=m:=by
     unfold tsz at hm
     rw[Option.map_eq_some_iff]at hm
     exact hm
    rw[run_equalIn_array w D xs ys hu hi,show P.cellsOf e=m by simp[Program.cellsOf,hi,him]]
    have go:∀(l:List Nat) (b:Bool),eqT.eqIs P (fun a b=>eqT P d e a b) e m xs.toList ys.toList l=some b->(Op.eqItems D e m xs ys l).run P w=.ok b w:=by
     intro l
     induction l with
     |nil=>intro b h;simp only[eqT.eqIs,Option.some.injEq]at h;subst h;simp[Op.eqItems]
     |cons j r ih=>
      intro b h
      simp only[eqT.eqIs]at h
      split at h
      case h_2=>cases h
      rename_i a c ha hc
      split at h
      case h_2=>cases h
      rename_i p q hp hq
      cases h
      simp only[Op.eqItems,Sem.run_bind,partV_run ha w,partV_run hc w,Result.andThen_ok,eqT_run d hp D w (by omega),Sem.run_ite,Sem.run_pure]
      cases p
      ·simp
      ·simpa using ih q hq
    exact go _ _ h
   ·cases h
  ·cases h
end
theorem eqv_of{P:Program}{t:TypeId}{xs ys:List AV}{K:Bool->Prop}{vs us:List Value}{b:Bool}(h1:denL xs=some vs)(h2:denL ys=some us)(hg:P.eqGuardType P.depth t=false)(h:eqT P 10 t (.agg vs.toArray) (.agg us.toArray)=some b)(hk:K b):EqV P t xs ys K:=
 EqV.intro vs us b h1 h2 hg (fun w=>eqT_run 10 h 10000 w (by decide)) hk
end Go.Vm
namespace Go.Proofs.YtokmdghjgegclaaGreatDoor
open Go Go.Vm
noncomputable abbrev encX(b:Bx):AV:=.agg [.v (.int .u32 b.r0.lo),.v (.int .u32 b.r0.hi),.v (.int .u32 b.r1.lo),.v (.int .u32 b.r1.hi),.v (.int .u32 b.r2.lo),.v (.int .u32 b.r2.hi),.v (.int .u32 b.r3.lo),.v (.int .u32 b.r3.hi),.v (.int .u32 b.r4.lo),.v (.int .u32 b.r4.hi)]
noncomputable abbrev encXs(l:List Bx):AV:=.lst (l.map encX)
def topI(f:Int):Int:=if f=0\/f=1 then 4294967295 else if f=2 then 255 else if f=3\/f=4 then 65535 else 0
theorem cr3Top(f:Int){K:KT}(hK:K (.v (.int .u32 (topI f))) []):ACall Tryz.prog 66 [.v (.int .i64 f)] [] K:=by
 refine ofr3Top rfl rfl ?_
 (repeat' ((conv=>whnf);first|refine zG ?_|apply zA|(apply zI;intro h)|exact zT));(all_goals conv=>whnf)
 all_goals
  unfold topI at hK
  simp_all only[or_self,or_true,true_or,if_true,if_false,Int.reduceEq,or_false,false_or,reduceIte]
  exact hK
def fullB:Bx:=⟨mkR 0 4294967295,mkR 0 4294967295,mkR 0 255,mkR 0 65535,mkR 0 65535⟩
def Rg.okF(r:Rg)(f:Nat):Prop:=r.lo<=r.hi/\r.hi<=topF f
def Bx.ok(b:Bx):Prop:=b.r0.okF 0/\b.r1.okF 1/\b.r2.okF 2/\b.r3.okF 3/\b.r4.okF 4
instance (b:Bx):Decidable b.ok:=by unfold Bx.ok Rg.okF;infer_instance
theorem cr3Val(b:Bx){K:KT}(hK:K (.sb (decide b.ok)) []):ACall Tryz.prog 71 [encX b] [] K:=by
 refine ACall.bool (ofr3Val rfl rfl ?_)
 (repeat' ((conv=>whnf);first|(with_reducible refine Lp.times 6 ?_)|(refine in_c (by decide) ?_)|(with_reducible refine cr3Top _ ?_)|refine zG ?_|apply zA|(apply zI;intro h)|exact zT));(all_goals conv=>whnf)
 all_goals
  have hb:b.ok↔((b.r0.lo<=b.r0.hi/\b.r0.hi<=4294967295)/\(b.r1.lo<=b.r1.hi/\b.r1.hi<=4294967295)/\(b.r2.lo<=b.r2.hi/\b.r2.hi<=255)/\(b.r3.lo<=b.r3.hi/\b.r3.hi<=65535)/\(b.r4.lo<=b.r4.hi/\b.r4.hi<=65535)):=Iff.rfl
  have t0:topI 0=4294967295:=rfl
  have t1:topI (0+1)=4294967295:=rfl
  have t2:topI (0+1+1)=255:=rfl
  have t3:topI (0+1+1+1)=65535:=rfl
  have t4:topI (0+1+1+1+1)=65535:=rfl
  first
   |exact fin_f hK (decide_eq_false (by rw[hb];omega))
   |exact fin_t hK (decide_eq_true (by rw[hb];omega))
theorem cr3Full{K:KT}(hK:K (encX fullB) []):ACall Tryz.prog 88 [] [] K:=by
 refine ofr3Full rfl rfl ?_
 (repeat' ((conv=>whnf);first|(with_reducible refine Lp.times 6 ?_)|(refine in_c (by decide) ?_)|(with_reducible refine cr3Top _ ?_)|refine zG ?_|apply zA|(apply zI;intro h)|exact zT));(all_goals conv=>whnf)
 exact hK
theorem rg_eq{r s:Rg}:r=s↔r.lo=s.lo/\r.hi=s.hi:=by
 constructor
 ·rintro rfl;exact⟨rfl,rfl⟩
 ·rintro⟨h1,h2⟩
  cases r;cases s
  simp only at h1 h2
  subst h1;subst h2;rfl
theorem eqv_X{p q:Bx}{K:Bool->Prop}(hk:K (decide (p=q))):EqV Tryz.prog 68 [.v (.int .u32 p.r0.lo),.v (.int .u32 p.r0.hi),.v (.int .u32 p.r1.lo),.v (.int .u32 p.r1.hi),.v (.int .u32 p.r2.lo),.v (.int .u32 p.r2.hi),.v (.int .u32 p.r3.lo),.v (.int .u32 p.r3.hi),.v (.int .u32 p.r4.lo),.v (.int .u32 p.r4.hi)]
  [.v (.int .u32 q.r0.lo),.v (.int .u32 q.r0.hi),.v (.int .u32 q.r1.lo),.v (.int .u32 q.r1.hi),.v (.int .u32 q.r2.lo),.v (.int .u32 q.r2.hi),.v (.int .u32 q.r3.lo),.v (.int .u32 q.r3.hi),.v (.int .u32 q.r4.lo),.v (.int .u32 q.r4.hi)] K:=by
 refine eqv_of (b:=((p.r0.lo==q.r0.lo&&(p.r0.hi==q.r0.hi&&true))&&((p.r1.lo==q.r1.lo&&(p.r1.hi==q.r1.hi&&true))&&((p.r2.lo==q.r2.lo&&(p.r2.hi==q.r2.hi&&true))&&((p.r3.lo==q.r3.lo&&(p.r3.hi==q.r3.hi&&true))&&((p.r4.lo==q.r4.lo&&(p.r4.hi==q.r4.hi&&true))&&true)))))) rfl rfl (by kernel_rfl) (by kernel_rfl) ?_
 have e:((p.r0.lo==q.r0.lo&&(p.r0.hi==q.r0.hi&&true))&&((p.r1.lo==q.r1.lo&&(p.r1.hi==q.r1.hi&&true))&&((p.r2.lo==q.r2.lo&&(p.r2.hi==q.r2.hi&&true))&&((p.r3.lo==q.r3.lo&&(p.r3.hi==q.r3.hi&&true))&&((p.r4.lo==q.r4.lo&&(p.r4.hi==q.r4.hi&&true))&&true)))))=decide (p=q):=by
  rw[Bool.eq_iff_iff]
  cases p;cases q
  simp[rg_eq]
 rw[e]
 exact hk
theorem cr3Same(a b:List Bx)(ha:a.length<1000000000000)(hb:b.length<1000000000000){K:KT}(hK:K (.sb (decide (a=b))) []):ACall Tryz.prog 63 [encXs a,encXs b] [] K:=by
 refine ACall.bool (ofr3Same rfl rfl ?_)
 (repeat' ((conv=>whnf);first|refine zG ?_|apply zA|(apply zI;intro h)|exact zT));(all_goals conv=>whnf)
 ·have hl:a.length=b.length:=by
   rw[List.length_map,List.length_map]at h;omega
  refine Lp.intro Nat (fun k=>⟨0,[],[(0,encXs a),(1,encXs b),(5,.v (.int .i64 k))]⟩) (fun k=>k<=a.length/\∀i,i<k->a[i]? =b[i]?) (fun k=>a.length-k) 0 ?_ ?_ ?_
  ·exact⟨Nat.zero_le _,fun i h=>absurd h (Nat.not_lt_zero _)⟩
  ·(exact leA)
  intro k ⟨hk,hinv⟩
  rcases Nat.lt_or_ge k a.length with hkl|hkl
  ·have hkb:k<b.length:=by omega
   obtain⟨p,hp⟩:=gex hkl
   obtain⟨q,hq⟩:=gex hkb
   (repeat' ((conv=>whnf);first|(with_reducible first|refine in_map hkl ?_|refine in_map hkb ?_|refine ix_map hp ?_|refine ix_map hq ?_|refine eqv_X ?_)|refine zG ?_|apply zA|(apply zI;intro h)|exact zT));(all_goals conv=>whnf)
   ·refine⟨k+1,⟨by omega,fun i hi=>?_⟩,by omega,?_⟩
    ·rcases Nat.lt_or_ge i k with h1|h1
     ·exact hinv i h1
     ·rw[show i=k by omega,hp,hq,h]
    ·(exact leA)
   ·refine fin_f hK (decide_eq_false fun e=>?_)
    subst e
    rw[hp]at hq;cases hq
    exact h rfl
  ·have hab:a=b:=by
    apply List.ext_getElem?
    intro i
    rcases Nat.lt_or_ge i k with h1|h1
    ·exact hinv i h1
    ·rw[List.getElem?_eq_none (by omega),List.getElem?_eq_none (by omega)]
   (repeat' ((conv=>whnf);first|refine zG ?_|apply zA|(apply zI;intro h)|exact zT));(all_goals conv=>whnf)
   exact fin_t hK (decide_eq_true hab)
 ·exact fin_f hK (decide_eq_false fun e=>h (by rw[e]))
theorem atF_succ{f:Nat}{v:Int}{l:List Bx}{k:Nat}{x:Bx}(h:l[k]? =some x):atF f v (l.take (k+1))=atF f v (l.take k)++(if(x.get f).lo<=v/\v<=(x.get f).hi then [x]else []):=by
 rw[List.take_add_one,h,atF,List.filter_append]
 congr 1
 by_cases hc:(x.get f).lo<=v/\v<=(x.get f).hi
 ·simp[hc]
 ·have:(decide ((x.get f).lo<=v)&&decide (v<=(x.get f).hi))=false:=by
   rw[Bool.eq_false_iff,ne_eq,Bool.and_eq_true,decide_eq_true_eq,decide_eq_true_eq];exact hc
  simp[this,hc]
theorem atF_len(f:Nat)(v:Int)(l:List Bx):(atF f v l).length<=l.length:=List.length_filter_le ..
theorem cr4At(l:List Bx)(f:Nat)(hf:f<=4)(v:Int)(hl:l.length<1000000000000){K:KT}(hK:K (encXs (atF f v l)) []):ACall Tryz.prog 182 [encXs l,.v (.int .i64 f),.v (.int .u64 v)] [] K:=by
 refine ofr4At rfl rfl ?_
 (repeat' ((conv=>whnf);first|refine zG ?_|apply zA|(apply zI;intro h)|exact zT));(all_goals conv=>whnf)
 refine Lp.intro Nat (fun k=>⟨1,[(0,.arr 10 ((atF f v (l.take k)).map encX))],[(0,encXs l),(1,.v (.int .i64 f)),(2,.v (.int .u64 v)),(7,.os 0 10 0 (atF f v (l.take k)).length),(8,.v (.int .i64 k))]⟩) (fun k=>k<=l.length) (fun k=>l.length-k) 0 (Nat.zero_le _) ?_ ?_
 ·(exact leA)
 intro k hk
 have hlen:=atF_len f v (l.take k)
 rw[List.length_take]at hlen
 rcases Nat.lt_or_ge k l.length with hkl|hkl
 ·obtain⟨x,hx⟩:=gex hkl
  have hs:=atF_succ (f:=f) (v:=v) hx
  have b0:=x.r0.l0;have b1:=x.r0.l1;have b2:=x.r0.h0;have b3:=x.r0.h1
  have c0:=x.r1.l0;have c1:=x.r1.l1;have c2:=x.r1.h0;have c3:=x.r1.h1
  have d0:=x.r2.l0;have d1:=x.r2.l1;have d2:=x.r2.h0;have d3:=x.r2.h1
  have e0:=x.r3.l0;have e1:=x.r3.l1;have e2:=x.r3.h0;have e3:=x.r3.h1
  have f0:=x.r4.l0;have f1:=x.r4.l1;have f2:=x.r4.h0;have f3:=x.r4.h1
  rcases f with _|_|_|_|_|f
  case succ.succ.succ.succ.succ=>omega
  all_goals
   simp only[Bx.get]at hs
   (repeat' ((conv=>whnf);first|(with_reducible first|refine in_map hkl ?_|refine ix_map hx ?_)|(refine in_c (by decide) ?_)|refine zG ?_|apply zA|(apply zI;intro h)|exact zT));(all_goals conv=>whnf)
   all_goals
    refine⟨k+1,by omega,by omega,?_⟩
    first
     |(rw[if_pos (by omega)]at hs
       rw[hs,List.map_append,List.length_append]
       (exact leA)
       done)
     |(rw[if_neg (by omega),List.append_nil]at hs
       rw[hs]
       (exact leA)
       done)
 ·(repeat' ((conv=>whnf);first|refine zG ?_|apply zA|(apply zI;intro h)|exact zT));(all_goals conv=>whnf)
  rw[List.take_of_length_le hkl]at*
  (repeat' ((conv=>whnf);first|refine zG ?_|apply zA|(apply zI;intro h)|exact zT));(all_goals conv=>whnf)
  exact hK
theorem cr4Rgs(a b:List Bx)(f:Nat)(hf:f<=4)(ha:a.length<1000000000)(hb:b.length<1000000000){K:KT}(hK:K (encRs (rngs f a b)) []):ACall Tryz.prog 181 [encXs a,encXs b,.v (.int .i64 f)] [] K:=by
 refine ofr4Rgs rfl rfl ?_
 (repeat' ((conv=>whnf);first|refine zG ?_|apply zA|(apply zI;intro h)|exact zT));(all_goals conv=>whnf)
 refine Lp.intro Nat (fun k=>⟨1,[(0,.arr 2 ((a.take k).map fun x=>encR (x.get f)))],[(0,encXs a),(1,encXs b),(2,.v (.int .i64 f)),(7,.os 0 2 0 k),(8,.v (.int .i64 k))]⟩) (fun k=>k<=a.length) (fun k=>a.length-k) 0 (Nat.zero_le _) ?_ ?_
 ·(exact leA)
 intro k hk
 have hlen:((a.take k).map fun x=>encR (x.get f)).length=k:=by rw[List.length_map,List.length_take];omega
 rcases Nat.lt_or_ge k a.length with hkl|hkl
 ·obtain⟨x,hx⟩:=gex hkl
  have hs:(a.take (k+1)).map (fun x=>encR (x.get f))=(a.take k).map (fun x=>encR (x.get f))++[.agg [.v (.int .u32 (x.get f).lo),.v (.int .u32 (x.get f).hi)]]:=by
   rw[List.take_add_one,hx,List.map_append];rfl
  rcases f with _|_|_|_|_|f
  case succ.succ.succ.succ.succ=>omega
  all_goals
   (repeat' ((conv=>whnf);first|(with_reducible first|refine in_map hkl ?_|refine ix_map hx ?_)|(refine in_c (by decide) ?_)|refine zG ?_|apply zA|(apply zI;intro h)|exact zT));(all_goals conv=>whnf)
   refine⟨k+1,by omega,by omega,?_⟩
   rw[hs]
   (exact leA)
 ·rw[List.take_of_length_le hkl]at hlen⊢
  (repeat' ((conv=>whnf);first|refine zG ?_|apply zA|(apply zI;intro h)|exact zT));(all_goals conv=>whnf)
  have hkk:k=a.length:=by omega
  subst hkk
  refine Lp.intro Nat (fun k=>⟨1,[(0,.arr 2 (a.map (fun x=>encR (x.get f))++(b.take k).map fun x=>encR (x.get f)))],[(1,encXs b),(2,.v (.int .i64 f)),(7,.os 0 2 0 (a.length+k)),(9,.v (.int .i64 k))]⟩) (fun k=>k<=b.length) (fun k=>b.length-k) 0 (Nat.zero_le _) ?_ ?_
  ·rw[List.take_zero,List.map_nil,List.append_nil]
   (exact leA)
  intro k hk2
  have hlen:(a.map (fun x=>encR (x.get f))++(b.take k).map fun x=>encR (x.get f)).length=a.length+k:=by rw[List.length_append,List.length_map,List.length_map,List.length_take];omega
  rcases Nat.lt_or_ge k b.length with hkl|hkl
  ·obtain⟨x,hx⟩:=gex hkl
   have hs:a.map (fun x=>encR (x.get f))++(b.take (k+1)).map (fun x=>encR (x.get f))=(a.map (fun x=>encR (x.get f))++(b.take k).map (fun x=>encR (x.get f)))++[.agg [.v (.int .u32 (x.get f).lo),.v (.int .u32 (x.get f).hi)]]:=by
    rw[List.take_add_one,hx,List.map_append,List.append_assoc];rfl
   rcases f with _|_|_|_|_|f
   case succ.succ.succ.succ.succ=>omega
   all_goals
    (repeat' ((conv=>whnf);first|(with_reducible first|refine in_map hkl ?_|refine ix_map hx ?_)|(refine in_c (by decide) ?_)|refine zG ?_|apply zA|(apply zI;intro h)|exact zT));(all_goals conv=>whnf)
    refine⟨k+1,by omega,by omega,?_⟩
    rw[hs]
    (exact leA)
  ·rw[List.take_of_length_le hkl]at hlen⊢
   (repeat' ((conv=>whnf);first|refine zG ?_|apply zA|(apply zI;intro h)|exact zT));(all_goals conv=>whnf)
   have e:a.map (fun x=>encR (x.get f))++b.map (fun x=>encR (x.get f))=(rngs f a b).map encR:=by
    rw[rngs,List.map_append,List.map_map,List.map_map];rfl
   rw[e]
   exact hK
def opI(c:Int)(x y:Bool):Bool:=if c=0 then x||y else if c=1 then x&&y else if c=2 then x&& !y else !(x==y)
def noneI(c:Int)(x y:Bool):Bool:=if c=1 then !x|| !y else if c=2 then !x else !x&& !y
theorem cr4Hold(c:Int)(x y:Bool){K:KT}(hK:K (.sb (opI c x y)) []):ACall Tryz.prog 178 [.v (.int .i64 c),.sb x,.sb y] [] K:=by
 refine ACall.bool (ofr4Hold rfl rfl ?_)
 (repeat' ((conv=>whnf);first|refine zG ?_|apply zA|(apply zI;intro h)|exact zT));(all_goals conv=>whnf)
 all_goals
  unfold opI at hK
  first
   |exact fin_s hK (by cases x<;>cases y<;>simp_all)
   |exact fin_t hK (by cases x<;>cases y<;>simp_all)
   |exact fin_f hK (by cases x<;>cases y<;>simp_all)
theorem cr4None(c:Int)(x y:Bool){K:KT}(hK:K (.sb (noneI c x y)) []):ACall Tryz.prog 179 [.v (.int .i64 c),.sb x,.sb y] [] K:=by
 refine ACall.bool (ofr4None rfl rfl ?_)
 (repeat' ((conv=>whnf);first|refine zG ?_|apply zA|(apply zI;intro h)|exact zT));(all_goals conv=>whnf)
 all_goals
  unfold noneI at hK
  first
   |exact fin_s hK (by cases x<;>cases y<;>simp_all)
   |exact fin_t hK (by cases x<;>cases y<;>simp_all)
   |exact fin_f hK (by cases x<;>cases y<;>simp_all)
theorem none_dead{c:Int}{x y:Bool}(h:noneI c x y=true):Dead (opI c) x y:=by
 unfold noneI at h
 intro p q hp hq
 unfold opI
 by_cases h0:c=0
 ·subst h0
  cases x<;>cases y<;>cases p<;>cases q<;>simp_all
 ·by_cases h1:c=1
  ·subst h1;cases x<;>cases y<;>cases p<;>cases q<;>simp_all
  ·by_cases h2:c=2
   ·subst h2;cases x<;>cases y<;>cases p<;>cases q<;>simp_all
   ·rw[if_neg h1,if_neg h2]at h
    rw[if_neg h0,if_neg h1,if_neg h2]
    cases x<;>cases y<;>cases p<;>cases q<;>simp_all
theorem topI_nat{f:Nat}(h:f<=4):topI (f:Int)=topF f:=by
 rcases f with _|_|_|_|_|f
 all_goals first|rfl|omega
theorem GInv.last_some{R:Int->List Bx}{gs:List (Grp (List Bx))}{s:Int}(h:GInv R gs s)(hs:1<=s)(hne:R (s-1)≠[]):∃ini g,gs=ini++[g]/\g.val=R (s-1)/\g.hi+1=s:=by
 have hat:=h.at_ (s-1)
 rw[if_pos (by omega),lab,if_neg (fun e=>hne (List.isEmpty_iff.1 e))]at hat
 obtain⟨g,hg,g1,g2,g3⟩:=gAt_some hat
 have hlow:=h.low g hg
 rcases List.eq_nil_or_concat gs with hn|⟨ini,g',hc⟩
 ·subst hn;simp at hg
 ·rw[List.concat_eq_append]at hc
  subst hc
  refine⟨ini,g',rfl,?_⟩
  rcases List.mem_append.1 hg with hm|hm
  ·have h1:=Wf.under h.wf g hm
   have h2:=h.low g' (by simp)
   have h3:=h.wf.le g' (by simp)
   omega
  ·simp only[List.mem_singleton]at hm
   subst hm
   exact⟨g3,by omega⟩
theorem grow_nil{gs:List (Grp (List Bx))}{s:Int×Int}:grow eqB gs s []=gs:=rfl
theorem grow_join{ini:List (Grp (List Bx))}{g:Grp (List Bx)}{s to:Int}{rest:List Bx}(hne:rest≠[])(hv:g.val=rest)(hh:g.hi+1=s):grow eqB (ini++[g]) (s,to) rest=ini++[⟨g.lo,to,rest⟩]:=by
 unfold grow
 rw[if_neg (fun e=>hne (List.isEmpty_iff.1 e))]
 simp only[List.getLast?_append,List.getLast?_singleton,Option.some_or,List.dropLast_concat]
 rw[if_pos ⟨hh,(eqB_iff _ _).2 hv⟩,hv]
theorem grow_push{R:Int->List Bx}{gs:List (Grp (List Bx))}{s to:Int}{rest:List Bx}(h:GInv R gs s)(hne:rest≠[])(hd:s=0\/R (s-1)≠rest):grow eqB gs (s,to) rest=gs++[⟨s,to,rest⟩]:=by
 unfold grow
 rw[if_neg (fun e=>hne (List.isEmpty_iff.1 e))]
 rcases List.eq_nil_or_concat gs with hn|⟨ini,g,hc⟩
 ·subst hn;rfl
 ·rw[List.concat_eq_append]at hc
  subst hc
  simp only[List.getLast?_append,List.getLast?_singleton,Option.some_or,List.dropLast_concat]
  rw[if_neg]
  rintro⟨h1,h2⟩
  have h2:=(eqB_iff _ _).1 h2
  have hl:=h.low g (by simp)
  have hle:=h.wf.le g (by simp)
  rcases hd with hd|hd
  ·omega
  ·have hat:=h.wf.at_mem (g:=g) (by simp) (v:=s-1) (by omega) (by omega)
   rw[h.at_,if_pos (by omega),lab]at hat
   split at hat
   ·cases hat
   ·exact hd ((Option.some.inj hat).trans h2)
theorem flatG_snoc{f:Nat}{ini:List (Grp (List Bx))}{g:Grp (List Bx)}:flatG f (ini++[g])=flatG f ini++g.val.map fun b=>b.put f (mkR g.lo g.hi):=by
 rw[flatG,List.flatMap_append]
 simp[flatG]
def gsAt(R:Int->List Bx)(top:Int)(st:List Int)(i:Nat):List (Grp (List Bx)):=((segs top st).take i).foldl (fun out s=>grow eqB out s (R s.1)) []
def segTo(top:Int)(st:List Int)(i:Nat):Int:=match st[i+1]? with
 |some y=>y-1
 |none=>top
theorem segs_at{top:Int}{st:List Int}{i:Nat}{x:Int}(h:st[i]? =some x):(segs top st)[i]? =some (x,segTo top st i):=segs_get top st i x h
theorem gsAt_succ{R:Int->List Bx}{top:Int}{st:List Int}{i:Nat}{x:Int}(h:st[i]? =some x):gsAt R top st (i+1)=grow eqB (gsAt R top st i) (x,segTo top st i) (R x):=by
 rw[gsAt,foldl_succ (segs_at h)];rfl
theorem gsAt_all{R:Int->List Bx}{top:Int}{st:List Int}{i:Nat}(h:st.length<=i):gsAt R top st i=groupsOf R top st:=by
 rw[gsAt,List.take_of_length_le (by rw[segs_length];exact h)];rfl
theorem gsAt_ginv{R:Int->List Bx}{top:Int}{l:List Rg}{st:List Int}(hc:Cuts top l st)(hR:∀u v,(∀r,r∈l->((r.lo<=u/\u<=r.hi)↔(r.lo<=v/\v<=r.hi)))->R u=R v):∀(i:Nat) (x:Int),st[i]? =some x->GInv R (gsAt R top st i) x
 |0,x,h=>by
  obtain⟨r,hr⟩:=hc.zero
  rw[hr]at h
  simp at h
  subst h
  exact GInv.start R
 |i+1,x,h=>by
  have hi:=(List.getElem?_eq_some_iff.1 h).1
  obtain⟨y,hy⟩:∃y,st[i]? =some y:=⟨_,List.getElem?_eq_getElem (by omega)⟩
  have ih:=gsAt_ginv hc hR i y hy
  have hseg:=List.mem_of_getElem? (segs_at (top:=top) hy)
  have hto:segTo top st i=x-1:=by rw[segTo,h]
  have hyx:y<x:=by
   have:=List.pairwise_iff_getElem.1 hc.sorted i (i+1) (by omega) hi (by omega)
   rw[List.getElem?_eq_getElem (by omega)]at hy h
   have e1:=Option.some.inj hy
   have e2:=Option.some.inj h
   omega
  have hy0:=(hc.range y (List.mem_of_getElem? hy)).1
  rw[hto]at hseg
  have hst:=ih.step eqB_iff (hi:=x-1) hy0 (by omega) (fun v v1 v2=>hR v y fun r hr=>hc.const hseg v1 v2 hr)
  rw[show x-1+1=x by omega]at hst
  rw[gsAt_succ hy,hto]
  exact hst
theorem prev_same{R:Int->List Bx}{top:Int}{l:List Rg}{st:List Int}(hc:Cuts top l st)(hR:∀u v,(∀r,r∈l->((r.lo<=u/\u<=r.hi)↔(r.lo<=v/\v<=r.hi)))->R u=R v){i:Nat}{x y:Int}(hx:st[i]? =some x)(hy:st[i+1]? =some y):R (y-1)=R x/\x<=y-1:=by
 have hi:=(List.getElem?_eq_some_iff.1 hy).1
 have hseg:=List.mem_of_getElem? (segs_at (top:=top) hx)
 have hto:segTo top st i=y-1:=by rw[segTo,hy]
 have hxy:x<y:=by
  have:=List.pairwise_iff_getElem.1 hc.sorted i (i+1) (by omega) hi (by omega)
  rw[List.getElem?_eq_getElem (by omega)]at hx hy
  have e1:=Option.some.inj hx
  have e2:=Option.some.inj hy
  omega
 rw[hto]at hseg
 exact⟨hR _ _ fun r hr=>hc.const hseg (by simp only;omega) (Int.le_refl _) hr,by omega⟩
theorem gsAt_size{R:Int->List Bx}{top:Int}{st:List Int}(i:Nat):sizeG (gsAt R top st i)<=sizeG (groupsOf R top st):=by
 have e:groupsOf R top st=((segs top st).drop i).foldl (fun out s=>grow eqB out s (R s.1)) (gsAt R top st i):=by
  rw[groupsOf,gsAt,<-List.foldl_append,List.take_append_drop]
 rw[e]
 exact fold_size R _ _
theorem rest_size{R:Int->List Bx}{top:Int}{st:List Int}{i:Nat}{x:Int}(h:st[i]? =some x):(R x).length<=sizeG (groupsOf R top st):=by
 have h1:=(grow_size (gsAt R top st i) (x,segTo top st i) (R x)).2
 rw[<-gsAt_succ h]at h1
 exact Nat.le_trans h1 (gsAt_size _)
theorem segTo_range{top:Int}{l:List Rg}{st:List Int}(hc:Cuts top l st){i:Nat}{x:Int}(hx:st[i]? =some x):x<=segTo top st i/\segTo top st i<=top/\0<=x:=by
 have hr:=hc.range x (List.mem_of_getElem? hx)
 unfold segTo
 cases hy:st[i+1]? with
 |none=>simp only;omega
 |some y=>
  have hi:=(List.getElem?_eq_some_iff.1 hy).1
  have:=List.pairwise_iff_getElem.1 hc.sorted i (i+1) (by omega) hi (by omega)
  have hry:=hc.range y (List.mem_of_getElem? hy)
  rw[List.getElem?_eq_getElem (by omega)]at hx hy
  have e1:=Option.some.inj hx
  have e2:=Option.some.inj hy
  simp only
  omega
theorem set_step{α:Type}{A:List α}{n:Nat}{L M:List α}{j:Nat}{v:α}(hA:A.length=n)(h:L.length=M.length)(hj:L[j]? =some v):(A++(L.take j++M.drop j)).set (n+j) v=A++(L.take (j+1)++M.drop (j+1)):=by
 have hl:=(List.getElem?_eq_some_iff.1 hj).1
 obtain⟨y,hd⟩:∃y,M.drop j=y::M.drop (j+1):=⟨M[j]'(by omega),List.drop_eq_getElem_cons (by omega)⟩
 rw[List.set_append_right _ _ (by omega),hA,Nat.add_sub_cancel_left,hd,List.set_append_right _ _ (by rw[List.length_take];omega),List.length_take,Nat.min_eq_left (by omega),Nat.sub_self,List.set_cons_zero,List.take_add_one,hj,List.append_assoc]
 rfl
theorem put0(b:Bx)(r:Rg):b.put 0 r=⟨r,b.r1,b.r2,b.r3,b.r4⟩:=rfl
theorem put1(b:Bx)(r:Rg):b.put 1 r=⟨b.r0,r,b.r2,b.r3,b.r4⟩:=rfl
theorem put2(b:Bx)(r:Rg):b.put 2 r=⟨b.r0,b.r1,r,b.r3,b.r4⟩:=rfl
theorem put3(b:Bx)(r:Rg):b.put 3 r=⟨b.r0,b.r1,b.r2,r,b.r4⟩:=rfl
theorem put4(b:Bx)(r:Rg):b.put 4 r=⟨b.r0,b.r1,b.r2,b.r3,r⟩:=rfl
theorem dec_pos{α:Type}{f:α->AV}(l:List α):decide ((0:Int)<((l.map f).length:Int))= !l.isEmpty:=by
 cases l with
 |nil=>rfl
 |cons x l=>simp
theorem rests_step(c:Int)(k:Nat)(hk:k<=4)
  (hIH:∀(a b:List Bx) {K:KT},a.length+b.length<50000->(cano (opI c) k a b).length<=900000000000->K (encXs (cano (opI c) k a b)) []->ACall Tryz.prog 133 [encXs a,encXs b,.v (.int .i64 c),.v (.int .i64 (((4-k:Nat):Int)+1))] [] K)
  (a b:List Bx){K:KT}(hab:a.length+b.length<50000)(hN:(cano (opI c) (k+1) a b).length<=900000000000)(hK:K (encXs (cano (opI c) (k+1) a b)) []):
  ACall Tryz.prog 133 [encXs a,encXs b,.v (.int .i64 c),.v (.int .i64 ((4-k:Nat):Int))] [] K:=by
 have hf4:4-k<=4:=by omega
 have ht:=topF_pos (4-k)
 have hTop:∀{K:KT},K (.v (.int .u32 (topF (4-k)))) []->ACall Tryz.prog 66 [.v (.int .i64 ((4-k:Nat):Int))] [] K:=fun h=>cr3Top _ (by rw[topI_nat hf4];exact h)
 have hcuts:=starts_cuts (rngs (4-k) a b) ht.1
 have hR:∀u v,(∀r,r∈rngs (4-k) a b->((r.lo<=u/\u<=r.hi)↔(r.lo<=v/\v<=r.hi)))->restAt (opI c) k a b u=restAt (opI c) k a b v:=fun u v h=>restAt_congr h
 have hrl:(rngs (4-k) a b).length<100000:=by rw[rngs,List.length_append,List.length_map,List.length_map];omega
 have hstl:=starts_length (rngs (4-k) a b) ht.1
 rw[cano_succ]at hN hK
 rw[flatG_len]at hN
 refine ACall.weak (ofr4Rests rfl rfl ?_)
 (repeat' ((conv=>whnf);first|(with_reducible first|refine cr4None c _ _ ?_|refine cr4Rgs a b (4-k) hf4 (by omega) (by omega) ?_|refine hTop ?_|refine c45 (rngs (4-k) a b) (topF (4-k)) ht.1 ht.2 hrl ?_)|refine zG ?_|apply zA|(apply zI;intro h)|exact zT));(all_goals conv=>whnf)
 ·refine⟨.lst [],Weak.nils,?_⟩
  rw[dec_pos,dec_pos]at h
  have hd:=cano_dead (opI c) (k+1) a b (none_dead h)
  rw[cano_succ]at hd
  rw[hd]at hK
  exact hK
 generalize hst:starts (rngs (4-k) a b) (topF (4-k))=st at*
 have hgs:∀i,sizeG (gsAt (restAt (opI c) k a b) (topF (4-k)) st i)<=900000000000:=fun i=>Nat.le_trans (gsAt_size i) hN
 have hrs:∀(i:Nat) x,st[i]? =some x->(restAt (opI c) k a b x).length<=900000000000:=fun i x hx=>Nat.le_trans (rest_size hx) hN
 refine Lp.intro (Nat×AV) (fun g=>⟨1,[(0,.arr 10 ((flatG (4-k) (gsAt (restAt (opI c) k a b) (topF (4-k)) st g.1)).map encX))],[(0,encXs a),(1,encXs b),(2,.v (.int .i64 c)),(3,.v (.int .i64 ((4-k:Nat):Int))),(9,.os 0 10 0 (flatG (4-k) (gsAt (restAt (opI c) k a b) (topF (4-k)) st g.1)).length),(10,g.2),(11,encUs st),(12,.v (.int .i64 g.1))]⟩)
  (fun g=>g.1<=st.length/\((g.1=0/\g.2=.nils)\/∃j x,g.1=j+1/\st[j]? =some x/\g.2=encXs (restAt (opI c) k a b x))) (fun g=>st.length-g.1) (0,.nils) ⟨Nat.zero_le _,.inl ⟨rfl,rfl⟩⟩ ?_ ?_
 ·(exact leA)
 rintro⟨i,y⟩ ⟨hi,hy⟩
 simp only at hi hy⊢
 rcases Nat.lt_or_ge i st.length with hil|hil
 ·obtain⟨x,hx⟩:=gex hil
  have hto:=segTo_range hcuts hx
  have hgi:=gsAt_ginv hcuts hR i x hx
  have hsucc:=gsAt_succ (R:=restAt (opI c) k a b) (top:=topF (4-k)) hx
  have hsz:=hgs i
  have hsz1:=hgs (i+1)
  have hrx:=hrs i x hx
  rw[hsucc]at hsz1
  have hfl:=flatG_len (4-k) (gsAt (restAt (opI c) k a b) (topF (4-k)) st i)
  (repeat' ((conv=>whnf);first|(with_reducible refine hTop ?_)|refine zG ?_|apply zA|(apply zI;intro h)|exact zT));(all_goals conv=>whnf)
  generalize hgsI:gsAt (restAt (opI c) k a b) (topF (4-k)) st i=gs at*
  obtain⟨rest,hdr⟩:∃rest,restAt (opI c) k a b x=rest:=⟨_,rfl⟩
  obtain⟨to,hdto⟩:∃to,segTo (topF (4-k)) st i=to:=⟨_,rfl⟩
  rw[hdr,hdto]at hsucc hsz1
  rw[hdr]at hrx
  rw[hdto]at hto
  have hatl:(atF (4-k) x a).length+(atF (4-k) x b).length<50000:=by
   have h1:=atF_len (4-k) x a
   have h2:=atF_len (4-k) x b
   omega
  have hcall:∀{K:KT},K (encXs rest) []->ACall Tryz.prog 133 [encXs (atF (4-k) x a),encXs (atF (4-k) x b),.v (.int .i64 c),.v (.int .i64 (((4-k:Nat):Int)+1))] [] K:=fun h=>hIH _ _ hatl (by rw[show cano (opI c) k (atF (4-k) x a) (atF (4-k) x b)=rest from hdr];exact hrx) (by rw[show cano (opI c) k (atF (4-k) x a) (atF (4-k) x b)=rest from hdr];exact h)
  have m1:(mkR x to).lo=x:=mkR_lo hto.2.2 (by omega) (by omega) (by omega)
  have m2:(mkR x to).hi=to:=mkR_hi hto.2.2 (by omega) (by omega) (by omega)
  have hpush:(rest=[]\/x=0\/restAt (opI c) k a b (x-1)≠rest)->flatG (4-k) (gsAt (restAt (opI c) k a b) (topF (4-k)) st (i+1))=flatG (4-k) gs++rest.map fun z=>z.put (4-k) (mkR x to):=by
   intro hd
   rw[hsucc]
   by_cases he:rest=[]
   ·rw[he,grow_nil,List.map_nil,List.append_nil]
   ·rw[grow_push hgi he (hd.resolve_left he),flatG_snoc]
  have hgrow:=(grow_size gs (x,to) rest).2
  have hsum:(flatG (4-k) gs).length+rest.length<=1800000000000:=by omega
  rcases hy with⟨h0,rfl⟩|⟨i',x',hi',hx',rfl⟩
  ·have hx0:x=0:=by
    obtain⟨r,hr⟩:=hcuts.zero
    rw[h0,hr]at hx
    simp at hx
    exact hx.symm
   refine Jn.at ⟨1,[(0,.arr 10 ((flatG (4-k) gs).map encX))],[(0,encXs a),(1,encXs b),(2,.v (.int .i64 c)),(3,.v (.int .i64 ((4-k:Nat):Int))),(9,.os 0 10 0 (flatG (4-k) gs).length),(10,.nils),(11,encUs st),(12,.v (.int .i64 i)),(13,.v (.int .u64 to))]⟩ ?_ ?_
   ·rcases Nat.lt_or_ge (i+1) st.length with hk1|hk1
    ·obtain⟨z,hz⟩:∃z,st[i+1]? =some z:=⟨_,List.getElem?_eq_getElem hk1⟩
     have hps:=prev_same hcuts hR hx hz
     have hzr:=hcuts.range z (List.mem_of_getElem? hz)
     have e:to=z-1:=by rw[<-hdto,segTo,hz]
     rw[e]
     (repeat' ((conv=>whnf);first|(with_reducible first|refine In.intro (i+1) (by omega) (by simp;omega) ?_|refine ix_map hz ?_)|refine zG ?_|apply zA|(apply zI;intro h)|exact zT));(all_goals conv=>whnf)
     refine⟨(),trivial,?_⟩
     (exact leA)
    ·have e:to=topF (4-k):=by rw[<-hdto,segTo,List.getElem?_eq_none hk1]
     rw[e]
     (repeat' ((conv=>whnf);first|refine zG ?_|apply zA|(apply zI;intro h)|exact zT));(all_goals conv=>whnf)
     refine⟨(),trivial,?_⟩
     (exact leA)
   (repeat' ((conv=>whnf);first|(with_reducible first|refine in_map hil ?_|refine ix_map hx ?_|refine cr4At a (4-k) hf4 x (by omega) ?_|refine cr4At b (4-k) hf4 x (by omega) ?_|refine hcall ?_)|refine zG ?_|apply zA|(apply zI;intro h)|exact zT));(all_goals conv=>whnf)
   refine Lp.intro Nat (fun j=>⟨1,[(0,.arr 10 ((flatG (4-k) gs++(rest.take j).map fun z=>z.put (4-k) (mkR x to)).map encX))],[(0,encXs a),(1,encXs b),(2,.v (.int .i64 c)),(3,.v (.int .i64 ((4-k:Nat):Int))),(9,.os 0 10 0 ((flatG (4-k) gs).length+j)),(10,encXs rest),(11,encUs st),(12,.v (.int .i64 i)),(13,.v (.int .u64 to)),(14,encXs rest),(16,.v (.int .i64 j))]⟩) (fun j=>j<=rest.length) (fun j=>rest.length-j) 0 (Nat.zero_le _) ?_ ?_
   ·rw[List.take_zero,List.map_nil,List.append_nil]
    (exact leA)
   intro j hj
   have hl9:((flatG (4-k) gs++(rest.take j).map fun z=>z.put (4-k) (mkR x to)).map encX).length=(flatG (4-k) gs).length+j:=by rw[List.length_map,List.length_append,List.length_map,List.length_take];omega
   rcases Nat.lt_or_ge j rest.length with hjl|hjl
   ·obtain⟨z,hz⟩:=gex hjl
    have hnext:((flatG (4-k) gs++(rest.take (j+1)).map fun z=>z.put (4-k) (mkR x to)).map encX)=((flatG (4-k) gs++(rest.take j).map fun z=>z.put (4-k) (mkR x to)).map encX)++[encX (z.put (4-k) (mkR x to))]:=by
     simp only[List.take_add_one,hz,Option.toList_some,List.map_append,List.map_cons,List.map_nil,List.append_assoc]
    generalize hA:((flatG (4-k) gs++(rest.take j).map fun z=>z.put (4-k) (mkR x to)).map encX)=A at*
    generalize hB:((flatG (4-k) gs++(rest.take (j+1)).map fun z=>z.put (4-k) (mkR x to)).map encX)=B at*
    clear hpush hfl hsucc hgi hcall hIH hTop
    obtain⟨V,hV⟩:∃V,V=encX (z.put (4-k) (mkR x to)):=⟨_,rfl⟩
    rw[<-hV]at hnext
    obtain rfl|rfl|rfl|rfl|rfl:k=0\/k=1\/k=2\/k=3\/k=4:=by omega
    all_goals
     simp only[Nat.reduceSub,put0,put1,put2,put3,put4,encX,m1,m2]at hV
     rw[hV]at hnext
     (repeat' ((conv=>whnf);first|(with_reducible first|refine in_map hjl ?_|refine ix_map hz ?_|refine in_map hil ?_|refine ix_map hx ?_)|(refine in_c (by decide) ?_)|refine zG ?_|apply zA|(apply zI;intro h)|exact zT));(all_goals conv=>whnf)
     refine⟨j+1,by omega,by omega,?_⟩
     rw[hB,hnext]
     (exact leA)
   ·(repeat' ((conv=>whnf);first|refine zG ?_|apply zA|(apply zI;intro h)|exact zT));(all_goals conv=>whnf)
    have hjr:j=rest.length:=by omega
    subst hjr
    rw[List.take_length]at*
    have e1:=hpush (.inr (.inl hx0))
    have e2:(flatG (4-k) (gsAt (restAt (opI c) k a b) (topF (4-k)) st (i+1))).length=(flatG (4-k) gs).length+rest.length:=by rw[e1,List.length_append,List.length_map]
    refine⟨(i+1,encXs rest),⟨by simp only;omega,.inr ⟨i,x,rfl,hx,by rw[hdr]⟩⟩,by simp only;omega,?_⟩
    simp only
    rw[e2,e1]
    (exact leA)
  ·have hprev:=prev_same hcuts hR hx' (show st[i'+1]? =some x by rw[<-hi'];exact hx)
   have hx'0:=hcuts.range x' (List.mem_of_getElem? hx')
   have hx'l:=hrs i' x' hx'
   refine Jn.at ⟨1,[(0,.arr 10 ((flatG (4-k) gs).map encX))],[(0,encXs a),(1,encXs b),(2,.v (.int .i64 c)),(3,.v (.int .i64 ((4-k:Nat):Int))),(9,.os 0 10 0 (flatG (4-k) gs).length),(10,encXs (restAt (opI c) k a b x')),(11,encUs st),(12,.v (.int .i64 i)),(13,.v (.int .u64 to))]⟩ ?_ ?_
   ·rcases Nat.lt_or_ge (i+1) st.length with hk1|hk1
    ·obtain⟨z,hz⟩:∃z,st[i+1]? =some z:=⟨_,List.getElem?_eq_getElem hk1⟩
     have hps:=prev_same hcuts hR hx hz
     have hzr:=hcuts.range z (List.mem_of_getElem? hz)
     have e:to=z-1:=by rw[<-hdto,segTo,hz]
     rw[e]
     (repeat' ((conv=>whnf);first|(with_reducible first|refine In.intro (i+1) (by omega) (by simp;omega) ?_|refine ix_map hz ?_)|refine zG ?_|apply zA|(apply zI;intro h)|exact zT));(all_goals conv=>whnf)
     refine⟨(),trivial,?_⟩
     (exact leA)
    ·have e:to=topF (4-k):=by rw[<-hdto,segTo,List.getElem?_eq_none hk1]
     rw[e]
     (repeat' ((conv=>whnf);first|refine zG ?_|apply zA|(apply zI;intro h)|exact zT));(all_goals conv=>whnf)
     refine⟨(),trivial,?_⟩
     (exact leA)
   (repeat' ((conv=>whnf);first|(with_reducible first|refine in_map hil ?_|refine ix_map hx ?_|refine cr4At a (4-k) hf4 x (by omega) ?_|refine cr4At b (4-k) hf4 x (by omega) ?_|refine hcall ?_|refine cr3Same rest (restAt (opI c) k a b x') (by omega) (by omega) ?_)|refine zG ?_|apply zA|(apply zI;intro h)|exact zT));(all_goals conv=>whnf)
   ·have hsm:=h
    rename_i hlp
    have hrne:rest≠[]:=fun e=>by rw[e]at hlp;simp at hlp
    have hx1:1<=x:=by omega
    have hRl:restAt (opI c) k a b (x-1)=rest:=hprev.1.trans (by rw[<-hsm])
    obtain⟨ini,g,hg1,hg2,hg3⟩:=hgi.last_some hx1 (by rw[hRl];exact hrne)
    rw[hRl]at hg2
    subst hg1
    have hjoin:flatG (4-k) (gsAt (restAt (opI c) k a b) (topF (4-k)) st (i+1))=flatG (4-k) ini++rest.map fun z=>z.put (4-k) (mkR g.lo to):=by rw[hsucc,grow_join hrne hg2 hg3,flatG_snoc]
    have hglo:=hgi.low g (by simp)
    have hgle:=hgi.wf.le g (by simp)
    have hold:flatG (4-k) (ini++[g])=flatG (4-k) ini++rest.map fun z=>z.put (4-k) (mkR g.lo g.hi):=by rw[flatG_snoc,hg2]
    have m1:(mkR g.lo to).lo=g.lo:=mkR_lo (by omega) (by omega) (by omega) (by omega)
    have m2:(mkR g.lo to).hi=to:=mkR_hi (by omega) (by omega) (by omega) (by omega)
    have m3:(mkR g.lo g.hi).lo=g.lo:=mkR_lo (by omega) (by omega) (by omega) (by omega)
    have e2:(flatG (4-k) (gsAt (restAt (opI c) k a b) (topF (4-k)) st (i+1))).length=(flatG (4-k) (ini++[g])).length:=by rw[hjoin,hold,List.length_append,List.length_append,List.length_map,List.length_map]
    have hlo:(flatG (4-k) (ini++[g])).length=(flatG (4-k) ini).length+rest.length:=by rw[hold,List.length_append,List.length_map]
    have hsub:((flatG (4-k) (ini++[g])).length:Int)-((rest.map encX).length:Int)=(((flatG (4-k) ini).length+0:Nat):Int):=by rw[hlo,List.length_map];omega
    rw[hsub,hlo,hold]
    refine Lp.intro Nat (fun j=>⟨1,[(0,.arr 10 ((flatG (4-k) ini++((rest.map fun z=>z.put (4-k) (mkR g.lo to)).take j++(rest.map fun z=>z.put (4-k) (mkR g.lo g.hi)).drop j)).map encX))],[(0,encXs a),(1,encXs b),(2,.v (.int .i64 c)),(3,.v (.int .i64 ((4-k:Nat):Int))),(9,.os 0 10 0 ((flatG (4-k) ini).length+rest.length)),(10,encXs (restAt (opI c) k a b x')),(11,encUs st),(12,.v (.int .i64 i)),(13,.v (.int .u64 to)),(15,.v (.int .i64 (((flatG (4-k) ini).length+j:Nat):Int)))]⟩) (fun j=>j<=rest.length) (fun j=>rest.length-j) 0 (Nat.zero_le _) ?_ ?_
    ·rw[List.take_zero,List.drop_zero,List.nil_append]
     (exact leA)
    intro j hj
    rcases Nat.lt_or_ge j rest.length with hjl|hjl
    ·obtain⟨z,hz⟩:=gex hjl
     have hAj:(rest.map fun z=>z.put (4-k) (mkR g.lo to))[j]? =some (z.put (4-k) (mkR g.lo to)):=by rw[List.getElem?_map,hz];rfl
     have hBj:(rest.map fun z=>z.put (4-k) (mkR g.lo g.hi))[j]? =some (z.put (4-k) (mkR g.lo g.hi)):=by rw[List.getElem?_map,hz];rfl
     have hAl:(rest.map fun z=>z.put (4-k) (mkR g.lo to)).length=rest.length:=List.length_map ..
     have hBl:(rest.map fun z=>z.put (4-k) (mkR g.lo g.hi)).length=rest.length:=List.length_map ..
     obtain⟨w,hw⟩:∃w,z.put (4-k) (mkR g.lo g.hi)=w:=⟨_,rfl⟩
     have hw2:z.put (4-k) (mkR g.lo to)=w.put (4-k) (mkR g.lo to):=by rw[<-hw,put_put]
     have hwg:(mkR g.lo to).lo=(w.get (4-k)).lo:=by rw[<-hw,get_put (by omega),m1,m3]
     rw[hw]at hBj
     rw[hw2]at hAj
     generalize (rest.map fun z=>z.put (4-k) (mkR g.lo to))=A at*
     generalize (rest.map fun z=>z.put (4-k) (mkR g.lo g.hi))=B at*
     have htk:(A.take j).length=j:=by rw[List.length_take];omega
     have hel:(flatG (4-k) ini++(A.take j++B.drop j))[0+((flatG (4-k) ini).length+j)]? =some w:=by
      rw[Nat.zero_add,List.getElem?_append_right (by omega),Nat.add_sub_cancel_left,List.getElem?_append_right (by omega),htk,Nat.sub_self,List.getElem?_drop,Nat.add_zero,hBj]
     have hnext:((flatG (4-k) ini++(A.take j++B.drop j)).map encX).set (0+((flatG (4-k) ini).length+j)) (encX (w.put (4-k) (mkR g.lo to)))=(flatG (4-k) ini++(A.take (j+1)++B.drop (j+1))).map encX:=by
      rw[<-List.map_set,Nat.zero_add,set_step rfl (by omega) hAj]
     have hin:(flatG (4-k) ini).length+j<(flatG (4-k) ini).length+rest.length:=by omega
     clear hpush hfl hsucc hgi hcall hIH hTop hjoin hold
     generalize flatG (4-k) ini=F at*
     obtain⟨V,hV⟩:∃V,V=encX (w.put (4-k) (mkR g.lo to)):=⟨_,rfl⟩
     rw[<-hV]at hnext
     obtain rfl|rfl|rfl|rfl|rfl:k=0\/k=1\/k=2\/k=3\/k=4:=by omega
     all_goals
      simp only[Nat.reduceSub,put0,put1,put2,put3,put4,encX,hwg,m2,Bx.get]at hV
      rw[hV]at hnext
      (repeat' ((conv=>whnf);first|(with_reducible first|refine in_nat hin ?_|refine ix_map hel ?_)|(refine in_c (by decide) ?_)|refine zG ?_|apply zA|(apply zI;intro h)|exact zT));(all_goals conv=>whnf)
      refine⟨j+1,by omega,by omega,?_⟩
      rw[<-hnext]
      (exact leA)
    ·(repeat' ((conv=>whnf);first|refine zG ?_|apply zA|(apply zI;intro h)|exact zT));(all_goals conv=>whnf)
     have hjr:j=rest.length:=by omega
     subst hjr
     refine⟨(i+1,encXs (restAt (opI c) k a b x')),⟨by simp only;omega,.inr ⟨i,x,rfl,hx,by rw[hdr,hsm]⟩⟩,by simp only;omega,?_⟩
     simp only
     rw[e2,hlo,hjoin]
     rw[List.take_of_length_le (by rw[List.length_map];exact Nat.le_refl _),List.drop_of_length_le (by rw[List.length_map];exact Nat.le_refl _),List.append_nil]
     (exact leA)
   ·refine Lp.intro Nat (fun j=>⟨1,[(0,.arr 10 ((flatG (4-k) gs++(rest.take j).map fun z=>z.put (4-k) (mkR x to)).map encX))],[(0,encXs a),(1,encXs b),(2,.v (.int .i64 c)),(3,.v (.int .i64 ((4-k:Nat):Int))),(9,.os 0 10 0 ((flatG (4-k) gs).length+j)),(10,encXs rest),(11,encUs st),(12,.v (.int .i64 i)),(13,.v (.int .u64 to)),(14,encXs rest),(16,.v (.int .i64 j))]⟩) (fun j=>j<=rest.length) (fun j=>rest.length-j) 0 (Nat.zero_le _) ?_ ?_
    ·rw[List.take_zero,List.map_nil,List.append_nil]
     (exact leA)
    intro j hj
    have hl9:((flatG (4-k) gs++(rest.take j).map fun z=>z.put (4-k) (mkR x to)).map encX).length=(flatG (4-k) gs).length+j:=by rw[List.length_map,List.length_append,List.length_map,List.length_take];omega
    rcases Nat.lt_or_ge j rest.length with hjl|hjl
    ·obtain⟨z,hz⟩:=gex hjl
     have hnext:((flatG (4-k) gs++(rest.take (j+1)).map fun z=>z.put (4-k) (mkR x to)).map encX)=((flatG (4-k) gs++(rest.take j).map fun z=>z.put (4-k) (mkR x to)).map encX)++[encX (z.put (4-k) (mkR x to))]:=by
      simp only[List.take_add_one,hz,Option.toList_some,List.map_append,List.map_cons,List.map_nil,List.append_assoc]
     generalize hA:((flatG (4-k) gs++(rest.take j).map fun z=>z.put (4-k) (mkR x to)).map encX)=A at*
     generalize hB:((flatG (4-k) gs++(rest.take (j+1)).map fun z=>z.put (4-k) (mkR x to)).map encX)=B at*
     clear hpush hfl hsucc hgi hcall hIH hTop
     obtain⟨V,hV⟩:∃V,V=encX (z.put (4-k) (mkR x to)):=⟨_,rfl⟩
     rw[<-hV]at hnext
     obtain rfl|rfl|rfl|rfl|rfl:k=0\/k=1\/k=2\/k=3\/k=4:=by omega
     all_goals
      simp only[Nat.reduceSub,put0,put1,put2,put3,put4,encX,m1,m2]at hV
      rw[hV]at hnext
      (repeat' ((conv=>whnf);first|(with_reducible first|refine in_map hjl ?_|refine ix_map hz ?_|refine in_map hil ?_|refine ix_map hx ?_)|(refine in_c (by decide) ?_)|refine zG ?_|apply zA|(apply zI;intro h)|exact zT));(all_goals conv=>whnf)
      refine⟨j+1,by omega,by omega,?_⟩
      rw[hB,hnext]
      (exact leA)
    ·(repeat' ((conv=>whnf);first|refine zG ?_|apply zA|(apply zI;intro h)|exact zT));(all_goals conv=>whnf)
     have hjr:j=rest.length:=by omega
     subst hjr
     rw[List.take_length]at*
     have e1:=hpush ((.inr (.inr (by rw[hprev.1];exact fun e=>h e.symm))))
     have e2:(flatG (4-k) (gsAt (restAt (opI c) k a b) (topF (4-k)) st (i+1))).length=(flatG (4-k) gs).length+rest.length:=by rw[e1,List.length_append,List.length_map]
     refine⟨(i+1,encXs rest),⟨by simp only;omega,.inr ⟨i,x,rfl,hx,by rw[hdr]⟩⟩,by simp only;omega,?_⟩
     simp only
     rw[e2,e1]
     (exact leA)
   ·refine Lp.intro Nat (fun j=>⟨1,[(0,.arr 10 ((flatG (4-k) gs++(rest.take j).map fun z=>z.put (4-k) (mkR x to)).map encX))],[(0,encXs a),(1,encXs b),(2,.v (.int .i64 c)),(3,.v (.int .i64 ((4-k:Nat):Int))),(9,.os 0 10 0 ((flatG (4-k) gs).length+j)),(10,encXs rest),(11,encUs st),(12,.v (.int .i64 i)),(13,.v (.int .u64 to)),(14,encXs rest),(16,.v (.int .i64 j))]⟩) (fun j=>j<=rest.length) (fun j=>rest.length-j) 0 (Nat.zero_le _) ?_ ?_
    ·rw[List.take_zero,List.map_nil,List.append_nil]
     (exact leA)
    intro j hj
    have hl9:((flatG (4-k) gs++(rest.take j).map fun z=>z.put (4-k) (mkR x to)).map encX).length=(flatG (4-k) gs).length+j:=by rw[List.length_map,List.length_append,List.length_map,List.length_take];omega
    rcases Nat.lt_or_ge j rest.length with hjl|hjl
    ·obtain⟨z,hz⟩:=gex hjl
     have hnext:((flatG (4-k) gs++(rest.take (j+1)).map fun z=>z.put (4-k) (mkR x to)).map encX)=((flatG (4-k) gs++(rest.take j).map fun z=>z.put (4-k) (mkR x to)).map encX)++[encX (z.put (4-k) (mkR x to))]:=by
      simp only[List.take_add_one,hz,Option.toList_some,List.map_append,List.map_cons,List.map_nil,List.append_assoc]
     generalize hA:((flatG (4-k) gs++(rest.take j).map fun z=>z.put (4-k) (mkR x to)).map encX)=A at*
     generalize hB:((flatG (4-k) gs++(rest.take (j+1)).map fun z=>z.put (4-k) (mkR x to)).map encX)=B at*
     clear hpush hfl hsucc hgi hcall hIH hTop
     obtain⟨V,hV⟩:∃V,V=encX (z.put (4-k) (mkR x to)):=⟨_,rfl⟩
     rw[<-hV]at hnext
     obtain rfl|rfl|rfl|rfl|rfl:k=0\/k=1\/k=2\/k=3\/k=4:=by omega
     all_goals
      simp only[Nat.reduceSub,put0,put1,put2,put3,put4,encX,m1,m2]at hV
      rw[hV]at hnext
      (repeat' ((conv=>whnf);first|(with_reducible first|refine in_map hjl ?_|refine ix_map hz ?_|refine in_map hil ?_|refine ix_map hx ?_)|(refine in_c (by decide) ?_)|refine zG ?_|apply zA|(apply zI;intro h)|exact zT));(all_goals conv=>whnf)
      refine⟨j+1,by omega,by omega,?_⟩
      rw[hB,hnext]
      (exact leA)
    ·(repeat' ((conv=>whnf);first|refine zG ?_|apply zA|(apply zI;intro h)|exact zT));(all_goals conv=>whnf)
     have hjr:j=rest.length:=by omega
     subst hjr
     rw[List.take_length]at*
     have e1:=hpush ((.inl (by cases rest with|nil=>rfl|cons z rest=>exfalso;simp at h)))
     have e2:(flatG (4-k) (gsAt (restAt (opI c) k a b) (topF (4-k)) st (i+1))).length=(flatG (4-k) gs).length+rest.length:=by rw[e1,List.length_append,List.length_map]
     refine⟨(i+1,encXs rest),⟨by simp only;omega,.inr ⟨i,x,rfl,hx,by rw[hdr]⟩⟩,by simp only;omega,?_⟩
     simp only
     rw[e2,e1]
     (exact leA)
 ·rw[gsAt_all hil]
  (repeat' ((conv=>whnf);first|(with_reducible refine sl_full (by rw[List.length_map]) ?_)|refine zG ?_|apply zA|(apply zI;intro h)|exact zT));(all_goals conv=>whnf)
  exact⟨_,Weak.refl,hK⟩
theorem cr4Rests(c:Int):∀(k:Nat),k<=5->∀(a b:List Bx) {K:KT},a.length+b.length<50000->(cano (opI c) k a b).length<=900000000000->K (encXs (cano (opI c) k a b)) []->
  ACall Tryz.prog 133 [encXs a,encXs b,.v (.int .i64 c),.v (.int .i64 ((5-k:Nat):Int))] [] K
 |0,_,a,b,K,hab,hN,hK=>by
  rw[cano]at hK
  refine ACall.weak (ofr4Rests rfl rfl ?_)
  (repeat' ((conv=>whnf);first|(with_reducible refine cr4Hold c _ _ ?_)|refine zG ?_|apply zA|(apply zI;intro h)|exact zT));(all_goals conv=>whnf)
  ·rw[dec_pos,dec_pos]at h
   rw[if_pos h]at hK
   exact⟨_,Weak.refl,hK⟩
  ·rw[dec_pos,dec_pos]at h
   rw[if_neg (by rw[h];decide)]at hK
   exact⟨_,Weak.nils,hK⟩
 |k+1,hk,a,b,K,hab,hN,hK=>by
  rw[show 5-(k+1)=4-k by omega]
  refine rests_step c k (by omega) (fun a b K h1 h2 h3=>?_) a b hab hN hK
  rw[show((4-k:Nat):Int)+1=((5-k:Nat):Int) by omega]
  exact cr4Rests c k (by omega) a b h1 h2 h3
def vldB(l:List Bx):List Bx:=l.filter fun b=>decide b.ok
theorem vldB_len(l:List Bx):(vldB l).length<=l.length:=List.length_filter_le ..
theorem vldB_succ{l:List Bx}{k:Nat}{x:Bx}(h:l[k]? =some x):vldB (l.take (k+1))=vldB (l.take k)++(if x.ok then [x]else []):=by
 rw[List.take_add_one,h,vldB,List.filter_append]
 congr 1
 by_cases hc:x.ok<;>simp[hc]
theorem cr4Val(l:List Bx)(hl:l.length<1000000000000){K:KT}(hK:K (encXs (vldB l)) []):ACall Tryz.prog 136 [encXs l] [] K:=by
 refine ofr4Val rfl rfl ?_
 (repeat' ((conv=>whnf);first|refine zG ?_|apply zA|(apply zI;intro h)|exact zT));(all_goals conv=>whnf)
 refine Lp.intro Nat (fun k=>⟨1,[(0,.arr 10 ((vldB (l.take k)).map encX))],[(0,encXs l),(3,.os 0 10 0 (vldB (l.take k)).length),(4,.v (.int .i64 k))]⟩) (fun k=>k<=l.length) (fun k=>l.length-k) 0 (Nat.zero_le _) ?_ ?_
 ·(exact leA)
 intro k hk
 have hlen:=vldB_len (l.take k)
 rw[List.length_take]at hlen
 rcases Nat.lt_or_ge k l.length with hkl|hkl
 ·obtain⟨x,hx⟩:=gex hkl
  have hs:=vldB_succ hx
  (repeat' ((conv=>whnf);first|(with_reducible first|refine in_map hkl ?_|refine ix_map hx ?_|refine cr3Val x ?_)|refine zG ?_|apply zA|(apply zI;intro h)|exact zT));(all_goals conv=>whnf)
  all_goals
   refine⟨k+1,by omega,by omega,?_⟩
   first
    |(rw[if_pos h]at hs
      rw[hs,List.map_append,List.length_append]
      (exact leA)
      done)
    |(rw[if_neg h,List.append_nil]at hs
      rw[hs]
      (exact leA)
      done)
 ·(repeat' ((conv=>whnf);first|refine zG ?_|apply zA|(apply zI;intro h)|exact zT));(all_goals conv=>whnf)
  rw[List.take_of_length_le hkl]at*
  (repeat' ((conv=>whnf);first|refine zG ?_|apply zA|(apply zI;intro h)|exact zT));(all_goals conv=>whnf)
  exact hK
def limP(l:List Bx):List Bx:=if 4096<l.length then []else l
def limE(l:List Bx):Int:=if 4096<l.length then 3 else 0
theorem cr4Lim(l:List Bx){K:KT}(hK:K (.tup [encXs (limP l),.v (.int .i64 (limE l))]) []):ACall Tryz.prog 132 [encXs l] [] K:=by
 refine ACall.weak (ofr4Lim rfl rfl ?_)
 unfold limP limE at hK
 (repeat' ((conv=>whnf);first|refine zG ?_|apply zA|(apply zI;intro h)|exact zT));(all_goals conv=>whnf)
 ·rw[List.length_map]at h
  rw[if_pos (by omega),if_pos (by omega)]at hK
  exact⟨_,Weak.tup2 Weak.nils Weak.refl,hK⟩
 ·rw[List.length_map]at h
  rw[if_neg (by omega),if_neg (by omega)]at hK
  exact⟨_,Weak.refl,hK⟩
theorem alike_get{g:Nat}{a b:List Bx}(hl:a.length=b.length):alike g a b=true↔∀(i:Nat) x y,a[i]? =some x->b[i]? =some y->alikeB g x y=true:=by
 rw[alike,hl,Bool.and_eq_true]
 simp only[beq_self_eq_true,true_and,List.all_eq_true]
 constructor
 ·intro h i x y hx hy
  exact h (x,y) (List.mem_of_getElem? (i:=i) (by rw[List.getElem?_zip_eq_some];exact⟨hx,hy⟩))
 ·rintro h ⟨x,y⟩ hm
  obtain⟨i,hi⟩:=List.mem_iff_getElem?.1 hm
  rw[List.getElem?_zip_eq_some]at hi
  exact h i x y hi.1 hi.2
theorem cr4Alike(a b:List Bx)(g:Nat)(hg1:1<=g)(hg:g<=5)(ha:a.length<1000000000000)(hb:b.length<1000000000000){K:KT}(hK:K (.sb (alike g a b)) []):ACall Tryz.prog 183 [encXs a,encXs b,.v (.int .i64 g)] [] K:=by
 refine ACall.bool (ofr4Alike rfl rfl ?_)
 (repeat' ((conv=>whnf);first|refine zG ?_|apply zA|(apply zI;intro h)|exact zT));(all_goals conv=>whnf)
 ·have hl:a.length=b.length:=by
   rw[List.length_map,List.length_map]at h;omega
  refine Lp.intro Nat (fun k=>⟨0,[],[(0,encXs a),(1,encXs b),(2,.v (.int .i64 g)),(7,.v (.int .i64 k))]⟩) (fun k=>k<=a.length/\∀(i:Nat) x y,i<k->a[i]? =some x->b[i]? =some y->alikeB g x y=true) (fun k=>a.length-k) 0 ⟨Nat.zero_le _,fun i x y h=>absurd h (Nat.not_lt_zero _)⟩ ?_ ?_
  ·(exact leA)
  intro k ⟨hk,hinv⟩
  rcases Nat.lt_or_ge k a.length with hkl|hkl
  ·have hkb:k<b.length:=by omega
   obtain⟨p,hp⟩:=gex hkl
   obtain⟨q,hq⟩:=gex hkb
   have yes:alikeB g p q=true->∀(i:Nat) x y,i<k+1->a[i]? =some x->b[i]? =some y->alikeB g x y=true:=fun h i x y hi hx hy=>by
    rcases Nat.lt_or_ge i k with h1|h1
    ·exact hinv i x y h1 hx hy
    ·have:i=k:=by omega
     subst this
     rw[hp]at hx;rw[hq]at hy;cases hx;cases hy;exact h
   have no:alikeB g p q=false->alike g a b=false:=fun h=>by
    rw[Bool.eq_false_iff,ne_eq,alike_get hl]
    intro hh
    rw[hh k p q hp hq]at h;cases h
   obtain rfl|rfl|rfl|rfl|rfl:g=1\/g=2\/g=3\/g=4\/g=5:=by omega
   all_goals
    (repeat' ((conv=>whnf);first|(with_reducible refine Lp.times 6 ?_)|(refine in_c (by decide) ?_)|(with_reducible first|refine in_map hkl ?_|refine in_map hkb ?_|refine ix_map hp ?_|refine ix_map hq ?_|refine eqv_R ?_)|refine zG ?_|apply zA|(apply zI;intro h)|exact zT));(all_goals conv=>whnf)
    all_goals first
     |(refine⟨k+1,⟨by omega,yes (by simp[alikeB,List.range,List.range.loop,Bx.get, *])⟩,by omega,?_⟩
       (exact leA)
       done)
     |exact fin_f hK (no (by simp[alikeB,List.range,List.range.loop,Bx.get, *]))
  ·(repeat' ((conv=>whnf);first|refine zG ?_|apply zA|(apply zI;intro h)|exact zT));(all_goals conv=>whnf)
   refine fin_t hK ((alike_get hl).2 fun i x y hx hy=>hinv i x y (by have:=(List.getElem?_eq_some_iff.1 hx).1;omega) hx hy)
 ·refine fin_f hK ?_
  rw[List.length_map,List.length_map]at h
  rw[alike]
  have:(a.length==b.length)=false:=by
   rw[Bool.eq_false_iff,ne_eq,beq_iff_eq];omega
  rw[this];rfl
def fromOf(ps:List (List Bx))(r:Nat):Nat:=(ps.take r).flatten.length
theorem fromOf_succ{ps:List (List Bx)}{r:Nat}{p:List Bx}(h:ps[r]? =some p):fromOf ps (r+1)=fromOf ps r+p.length:=by
 rw[fromOf,List.take_add_one,h]
 simp[fromOf]
theorem fromOf_all{ps:List (List Bx)}{r:Nat}(h:ps.length<=r):fromOf ps r=ps.flatten.length:=by rw[fromOf,List.take_of_length_le h]
theorem run_get{ps:List (List Bx)}{r:Nat}{p:List Bx}(h:ps[r]? =some p){j:Nat}(hj:j<p.length):ps.flatten[fromOf ps r+j]? =p[j]? :=by
 have hr:=(List.getElem?_eq_some_iff.1 h).1
 have e:ps.flatten=(ps.take r).flatten++(p++(ps.drop (r+1)).flatten):=by
  have h2:ps=ps.take r++p::ps.drop (r+1):=by
   rw[List.getElem?_eq_getElem hr]at h
   rw[<-Option.some.inj h,<-List.drop_eq_getElem_cons hr,List.take_append_drop]
  rw[<-List.flatten_cons,<-List.flatten_append,<-h2]
 rw[e,List.getElem?_append_right (by rw[fromOf];omega),fromOf,Nat.add_sub_cancel_left,List.getElem?_append_left hj]
theorem run_slice{ps:List (List Bx)}{r:Nat}{p:List Bx}(h:ps[r]? =some p):(ps.flatten.drop (fromOf ps r)).take p.length=p:=by
 apply List.ext_getElem?
 intro j
 rw[List.getElem?_take]
 by_cases hj:j<p.length
 ·rw[if_pos hj,List.getElem?_drop,run_get h hj]
 ·rw[if_neg hj,List.getElem?_eq_none (by omega)]
theorem Parts.next{f:Nat}:∀{ps:List (List Bx)},Parts f ps->∀{r:Nat} {p q:List Bx},ps[r]? =some p->ps[r+1]? =some q->rgOf f p≠rgOf f q
 |[],_,r,p,q,h,_=>by simp at h
 |p0::ps,hP,0,p,q,h,h2=>by
  simp at h;subst h
  cases hP with
  |one=>simp at h2
  |cons _ q' ps' _ _ h3 _=>simp at h2;subst h2;exact h3
 |p0::ps,hP,r+1,p,q,h,h2=>Parts.next hP.tail (by simpa using h) (by simpa using h2)
def lastRun(ps:List (List Bx)):Nat->List Bx
 |0=>[]
 |r+1=>(ps[r]?).getD []
theorem canl_step(k:Nat)(hk:k<=4)(hIH:∀(l:List Bx) {K:KT},l.length<1000000000->K (.sb (canB k l)) []->ACall Tryz.prog 137 [encXs l,.v (.int .i64 (((4-k:Nat):Int)+1))] [] K)
  (l:List Bx)(hl:l.length<1000000000){K:KT}(hK:K (.sb (canB (k+1) l)) []):ACall Tryz.prog 137 [encXs l,.v (.int .i64 ((4-k:Nat):Int))] [] K:=by
 have hf4:4-k<=4:=by omega
 have hP:=runs_parts (4-k) l
 have hfl:=runs_flat (4-k) l
 have hal:∀(a b:List Bx) {K:KT},a.length<1000000000000->b.length<1000000000000->K (.sb (alike (4-k+1) a b)) []->ACall Tryz.prog 183 [encXs a,encXs b,.v (.int .i64 (((4-k:Nat):Int)+1))] [] K:=fun a b {K} ha hb h=>by
  rw[show((4-k:Nat):Int)+1=((4-k+1:Nat):Int) by omega]
  exact cr4Alike a b (4-k+1) (by omega) (by omega) ha hb h
 rw[canB]at hK
 generalize runsF (4-k) l=ps at*
 have hflen:ps.flatten.length=l.length:=by rw[hfl]
 refine ACall.bool (ofr4Canl rfl rfl ?_)
 (repeat' ((conv=>whnf);first|refine zG ?_|apply zA|(apply zI;intro h)|exact zT));(all_goals conv=>whnf)
 refine Lp.intro Nat (fun r=>⟨0,[],[(0,encXs l),(1,.v (.int .i64 ((4-k:Nat):Int))),(5,encXs (lastRun ps r)),(6,.v (.int .i64 (fromOf ps r:Nat)))]⟩) (fun r=>r<=ps.length/\chkR (canB k) (4-k) [] ps=chkR (canB k) (4-k) (lastRun ps r) (ps.drop r)) (fun r=>ps.length-r) 0 ⟨Nat.zero_le _,by rw[List.drop_zero];rfl⟩ ?_ ?_
 ·(exact leA)
 intro r ⟨hr,hchk⟩
 rcases Nat.lt_or_ge r ps.length with hrl|hrl
 ·obtain⟨p,hp⟩:=gex hrl
  obtain⟨hp1,hp2⟩:=hP.mem p (List.mem_of_getElem? hp)
  have hplen:0<p.length:=List.length_pos_iff.2 hp1
  have hfs:=fromOf_succ hp
  have hfle:fromOf ps (r+1)<=l.length:=by
   rw[<-hflen,fromOf]
   have:=congrArg List.length (List.take_append_drop (r+1) ps)
   have e:ps.flatten=(ps.take (r+1)).flatten++(ps.drop (r+1)).flatten:=by rw[<-List.flatten_append,List.take_append_drop]
   rw[e,List.length_append];omega
  have hfrl:fromOf ps r<l.length:=by omega
  obtain⟨x0,hx0⟩:=gex hplen
  have hlx0:l[fromOf ps r]? =some x0:=by
   have:=run_get hp hplen
   rw[hfl,Nat.add_zero,hx0]at this
   exact this
  have hx0r:x0.get (4-k)=rgOf (4-k) p:=hp2 x0 (List.mem_of_getElem? hx0)
  (repeat' ((conv=>whnf);first|refine zG ?_|apply zA|(apply zI;intro h)|exact zT));(all_goals conv=>whnf)
  refine Lp.intro Nat (fun j=>⟨0,[],[(0,encXs l),(1,.v (.int .i64 ((4-k:Nat):Int))),(5,encXs (lastRun ps r)),(6,.v (.int .i64 (fromOf ps r:Nat))),(7,.v (.int .i64 ((fromOf ps r+j:Nat):Int)))]⟩) (fun j=>j<=p.length) (fun j=>p.length-j) 0 (Nat.zero_le _) ?_ ?_
  ·(exact leA)
  intro j hj
  rcases Nat.lt_or_ge j p.length with hjl|hjl
  ·obtain⟨x,hx⟩:=gex hjl
   have hlx:l[fromOf ps r+j]? =some x:=by
    have:=run_get hp hjl
    rw[hfl,hx]at this
    exact this
   have hxr:x.get (4-k)=x0.get (4-k):=by rw[hp2 x (List.mem_of_getElem? hx),hx0r]
   have hjl2:fromOf ps r+j<l.length:=by omega
   clear hchk hK hal hIH hP hp2 hx0r
   obtain rfl|rfl|rfl|rfl|rfl:k=0\/k=1\/k=2\/k=3\/k=4:=by omega
   all_goals
    (repeat' ((conv=>whnf);first|(with_reducible first|refine in_map hjl2 ?_|refine in_map hfrl ?_|refine ix_map hlx ?_|refine ix_map hlx0 ?_)|(refine in_c (by decide) ?_)|(with_reducible refine eqv_R ?_)|refine zG ?_|apply zA|(apply zI;intro h)|exact zT));(all_goals conv=>whnf)
    all_goals first
     |(exfalso;exact h hxr)
     |(refine⟨j+1,by omega,by omega,?_⟩
       (exact leA))
  ·have hjp:j=p.length:=by omega
   subst hjp
   have hsl:∀{K:List AV->Prop},K (p.map encX)->Sl (l.map encX) (fromOf ps r) (fromOf ps r+p.length-fromOf ps r) K:=fun {K} h=>by
    refine sl_map (by omega) ?_
    rw[Nat.add_sub_cancel_left,<-hfl,run_slice hp]
    exact h
   have hadd:(fromOf ps r:Int)+((p.map encX).length:Int)=((fromOf ps (r+1):Nat):Int):=by rw[hfs,List.length_map];omega
   have hdrop:ps.drop r=p::ps.drop (r+1):=by
    rw[List.getElem?_eq_getElem hrl]at hp
    rw[<-Option.some.inj hp,<-List.drop_eq_getElem_cons hrl]
   have hlast1:lastRun ps (r+1)=p:=by rw[lastRun,hp];rfl
   have hstep:chkR (canB k) (4-k) [] ps=(!joinB (4-k) (lastRun ps r) p&&canB k p&&chkR (canB k) (4-k) p (ps.drop (r+1))):=by rw[hchk,hdrop,chkR]
   have hpl:p.length<=l.length:=by omega
   have hcan:∀{K:KT},K (.sb (canB k p)) []->ACall Tryz.prog 137 [encXs p,.v (.int .i64 (((4-k:Nat):Int)+1))] [] K:=fun h=>hIH p (by omega) h
   have hends:(fromOf ps r+p.length=l.length)\/∃y,l[fromOf ps r+p.length]? =some y/\y.get (4-k)≠x0.get (4-k):=by
    rcases Nat.lt_or_ge (r+1) ps.length with hn|hn
    ·obtain⟨q,hq⟩:∃q,ps[r+1]? =some q:=⟨_,List.getElem?_eq_getElem hn⟩
     obtain⟨hq1,hq2⟩:=hP.mem q (List.mem_of_getElem? hq)
     obtain⟨y,hy⟩:∃y,q[0]? =some y:=⟨_,List.getElem?_eq_getElem (List.length_pos_iff.2 hq1)⟩
     refine .inr ⟨y,?_,?_⟩
     ·have:=run_get hq (List.length_pos_iff.2 hq1)
      rw[hfl,Nat.add_zero,hfs,hy]at this
      exact this
     ·rw[hq2 y (List.mem_of_getElem? hy),hx0r]
      exact(hP.next hp hq).symm
    ·left
     rw[<-hfs,fromOf_all (by omega),hflen]
   have hprev:(fromOf ps r=0/\lastRun ps r=[])\/∃pl z0,lastRun ps r=pl/\pl≠[]/\0<fromOf ps r/\l[fromOf ps r-1]? =some z0/\rgOf (4-k) pl=z0.get (4-k)/\pl.length<=l.length:=by
    cases r with
    |zero=>exact .inl ⟨rfl,rfl⟩
    |succ r'=>
     obtain⟨pl,hpl⟩:∃pl,ps[r']? =some pl:=⟨_,List.getElem?_eq_getElem (by omega)⟩
     obtain⟨h1,h2⟩:=hP.mem pl (List.mem_of_getElem? hpl)
     have hlp:=List.length_pos_iff.2 h1
     have hf:=fromOf_succ hpl
     obtain⟨z0,hz0⟩:∃z,pl[pl.length-1]? =some z:=⟨_,List.getElem?_eq_getElem (by omega)⟩
     refine .inr ⟨pl,z0,by rw[lastRun,hpl];rfl,h1,by omega,?_,(h2 z0 (List.mem_of_getElem? hz0)).symm,by omega⟩
     have:=run_get hpl (show pl.length-1<pl.length by omega)
     rw[hfl,hz0]at this
     rw[<-this]
     congr 1
     omega
   obtain⟨cb,hcb⟩:∃cb,canB k p=cb:=⟨_,rfl⟩
   rw[hcb]at hstep
   rw[hcb]at hcan
   rcases hprev with⟨hz,hlr⟩|⟨pl,z0,hlr,hplne,hpos,hz0,hplr,hpll⟩
   ·have hjo:joinB (4-k) (lastRun ps r) p=false:=by rw[hlr];rfl
    rw[hjo]at hstep
    clear hchk hIH hP hp2 hfl hflen hdrop hx0r
    rcases hends with hend|⟨y,hly,hne⟩
    ·obtain rfl|rfl|rfl|rfl|rfl:k=0\/k=1\/k=2\/k=3\/k=4:=by omega
     all_goals
      skip
      (repeat' ((conv=>whnf);first|(with_reducible first|refine in_map hfrl ?_|refine ix_map hlx0 ?_)|(refine in_c (by decide) ?_)|(with_reducible first|refine eqv_R ?_|refine Sb.intro (fromOf ps r) (fromOf ps r+p.length) rfl rfl (by omega) (by rw[List.length_map];omega) ?_|refine hsl ?_|refine hcan ?_|refine wr_i64 hadd (by omega) (by omega) ?_)|refine zG ?_|apply zA|(apply zI;intro h)|exact zT));(all_goals conv=>whnf)
      all_goals first
       |exact fin_f hK (by rw[hstep];clear hsl hcan hK hl hfs hfle hfrl hx0 hlx0 hp hadd hlast1 hstep;(try clear hal2 hal1 hz0);simp_all)
       |(refine⟨r+1,⟨by omega,by rw[hstep,hlast1];clear hsl hcan hK hl hfs hfle hfrl hx0 hlx0 hp hadd hlast1 hstep;(try clear hal2 hal1 hz0);simp_all⟩,by omega,?_⟩
         rw[hlast1]
         (exact leA))
    ·have hlyl:fromOf ps r+p.length<l.length:=(List.getElem?_eq_some_iff.1 hly).1
     obtain rfl|rfl|rfl|rfl|rfl:k=0\/k=1\/k=2\/k=3\/k=4:=by omega
     all_goals
      skip
      (repeat' ((conv=>whnf);first|(with_reducible first|refine in_map hlyl ?_|refine ix_map hly ?_|refine in_map hfrl ?_|refine ix_map hlx0 ?_)|(refine in_c (by decide) ?_)|(with_reducible first|refine eqv_R ?_|refine Sb.intro (fromOf ps r) (fromOf ps r+p.length) rfl rfl (by omega) (by rw[List.length_map];omega) ?_|refine hsl ?_|refine hcan ?_|refine wr_i64 hadd (by omega) (by omega) ?_)|refine zG ?_|apply zA|(apply zI;intro h)|exact zT));(all_goals conv=>whnf)
      all_goals first
       |(exfalso;exact hne h)
       |exact fin_f hK (by rw[hstep];clear hsl hcan hK hl hfs hfle hfrl hx0 hlx0 hp hadd hlast1 hstep;(try clear hal2 hal1 hz0);simp_all)
       |(refine⟨r+1,⟨by omega,by rw[hstep,hlast1];clear hsl hcan hK hl hfs hfle hfrl hx0 hlx0 hp hadd hlast1 hstep;(try clear hal2 hal1 hz0);simp_all⟩,by omega,?_⟩
         rw[hlast1]
         (exact leA))
   ·obtain⟨al,hal1⟩:∃al,alike (4-k+1) pl p=al:=⟨_,rfl⟩
    have hjo:joinB (4-k) (lastRun ps r) p=(decide ((x0.get (4-k)).lo<=(z0.get (4-k)).hi)||(decide ((x0.get (4-k)).lo=(z0.get (4-k)).hi+1)&&al)):=by
     rw[hlr,joinB,hplr,<-hx0r,hal1]
     cases pl with
     |nil=>exact absurd rfl hplne
     |cons=>rfl
    have hal2:∀{K:KT},K (.sb al) []->ACall Tryz.prog 183 [encXs pl,encXs p,.v (.int .i64 (((4-k:Nat):Int)+1))] [] K:=fun h=>hal pl p (by omega) (by omega) (by rw[hal1];exact h)
    have hzl:fromOf ps r-1<l.length:=by omega
    have b0:=(z0.get (4-k)).h0
    have b1:=(z0.get (4-k)).h1
    have b2:=(x0.get (4-k)).l1
    rw[hjo]at hstep
    rw[hlr]
    clear hchk hIH hP hp2 hfl hflen hdrop hx0r hal hplr hjo
    rcases hends with hend|⟨y,hly,hne⟩
    ·obtain rfl|rfl|rfl|rfl|rfl:k=0\/k=1\/k=2\/k=3\/k=4:=by omega
     all_goals
      simp only[Nat.reduceSub,Bx.get]at hstep b0 b1 b2
      (repeat' ((conv=>whnf);first|(with_reducible first|refine in_map hfrl ?_|refine ix_map hlx0 ?_)|(refine in_c (by decide) ?_)|(with_reducible first|refine eqv_R ?_|refine Sb.intro (fromOf ps r) (fromOf ps r+p.length) rfl rfl (by omega) (by rw[List.length_map];omega) ?_|refine hsl ?_|refine hcan ?_|refine wr_i64 hadd (by omega) (by omega) ?_|refine In.intro (fromOf ps r-1) (by omega) (by rw[List.length_map];omega) ?_|refine ix_map hz0 ?_|refine hal2 ?_)|refine zG ?_|apply zA|(apply zI;intro h)|exact zT));(all_goals conv=>whnf)
      all_goals first
       |exact fin_f hK (by rw[hstep];clear hsl hcan hK hl hfs hfle hfrl hx0 hlx0 hp hadd hlast1 hstep;(try clear hal2 hal1 hz0);simp_all)
       |(refine⟨r+1,⟨by omega,by rw[hstep,hlast1];clear hsl hcan hK hl hfs hfle hfrl hx0 hlx0 hp hadd hlast1 hstep;(try clear hal2 hal1 hz0);simp_all⟩,by omega,?_⟩
         rw[hlast1]
         (exact leA))
    ·have hlyl:fromOf ps r+p.length<l.length:=(List.getElem?_eq_some_iff.1 hly).1
     obtain rfl|rfl|rfl|rfl|rfl:k=0\/k=1\/k=2\/k=3\/k=4:=by omega
     all_goals
      simp only[Nat.reduceSub,Bx.get]at hstep b0 b1 b2
      (repeat' ((conv=>whnf);first|(with_reducible first|refine in_map hlyl ?_|refine ix_map hly ?_|refine in_map hfrl ?_|refine ix_map hlx0 ?_)|(refine in_c (by decide) ?_)|(with_reducible first|refine eqv_R ?_|refine Sb.intro (fromOf ps r) (fromOf ps r+p.length) rfl rfl (by omega) (by rw[List.length_map];omega) ?_|refine hsl ?_|refine hcan ?_|refine wr_i64 hadd (by omega) (by omega) ?_|refine In.intro (fromOf ps r-1) (by omega) (by rw[List.length_map];omega) ?_|refine ix_map hz0 ?_|refine hal2 ?_)|refine zG ?_|apply zA|(apply zI;intro h)|exact zT));(all_goals conv=>whnf)
      all_goals first
       |(exfalso;exact hne h)
       |exact fin_f hK (by rw[hstep];clear hsl hcan hK hl hfs hfle hfrl hx0 hlx0 hp hadd hlast1 hstep;(try clear hal2 hal1 hz0);simp_all)
       |(refine⟨r+1,⟨by omega,by rw[hstep,hlast1];clear hsl hcan hK hl hfs hfle hfrl hx0 hlx0 hp hadd hlast1 hstep;(try clear hal2 hal1 hz0);simp_all⟩,by omega,?_⟩
         rw[hlast1]
         (exact leA))
 ·have e:ps.drop r=[]:=List.drop_of_length_le hrl
  rw[e,chkR]at hchk
  have hf:fromOf ps r=l.length:=by rw[fromOf_all hrl,hflen]
  (repeat' ((conv=>whnf);first|refine zG ?_|apply zA|(apply zI;intro h)|exact zT));(all_goals conv=>whnf)
  exact fin_t hK hchk
theorem cr4Canl:∀(k:Nat),k<=5->∀(l:List Bx) {K:KT},l.length<1000000000->K (.sb (canB k l)) []->ACall Tryz.prog 137 [encXs l,.v (.int .i64 ((5-k:Nat):Int))] [] K
 |0,_,l,K,hl,hK=>by
  refine ACall.bool (ofr4Canl rfl rfl ?_)
  (repeat' ((conv=>whnf);first|refine zG ?_|apply zA|(apply zI;intro h)|exact zT));(all_goals conv=>whnf)
  refine fin_s hK ?_
  rw[canB,List.length_map,Bool.eq_iff_iff,beq_iff_eq,decide_eq_true_eq]
  omega
 |k+1,hk,l,K,hl,hK=>by
  rw[show 5-(k+1)=4-k by omega]
  refine canl_step k (by omega) (fun l K h1 h2=>?_) l hl hK
  rw[show((4-k:Nat):Int)+1=((5-k:Nat):Int) by omega]
  exact cr4Canl k (by omega) l h1 h2
def setB(l:List Bx):Bool:=decide (l.length<=4096)&&(decide ((vldB l).length=l.length)&&canB 5 l)
theorem cr4Vald(l:List Bx)(hl:l.length<1000000000){K:KT}(hK:K (.sb (setB l)) []):ACall Tryz.prog 90 [encXs l] [] K:=by
 have hc:∀{K:KT},K (.sb (canB 5 l)) []->ACall Tryz.prog 137 [encXs l,.v (.int .i64 0)] [] K:=fun h=>cr4Canl 5 (Nat.le_refl _) l hl h
 refine ACall.bool (ofr4Vald rfl rfl ?_)
 unfold setB at hK
 (repeat' ((conv=>whnf);first|(with_reducible first|refine cr4Val l (by omega) ?_|refine hc ?_)|refine zG ?_|apply zA|(apply zI;intro h)|exact zT));(all_goals conv=>whnf)
 all_goals
  simp only[List.length_map]at*
  first
   |exact fin_s hK (by rw[decide_eq_true (by omega),decide_eq_true (by omega)];rfl)
   |exact fin_f hK (by rw[decide_eq_true (by omega),decide_eq_false (by omega)];rfl)
   |exact fin_f hK (by rw[decide_eq_false (by omega)];rfl)
def addO(s:List Bx)(b:Bx):List Bx:=cano orB 5 s [b]
def makeGo:List Bx->List Bx->List Bx×Int
 |s,[]=>(s,0)
 |s,b::l=>if b.ok then(if 4096<(addO s b).length then([],3)else makeGo (addO s b) l)else makeGo s l
def makeP(l:List Bx):List Bx×Int:=makeGo [] l
theorem opI_0:opI 0=orB:=by funext x y;rfl
end Go.Proofs.YtokmdghjgegclaaGreatDoor
