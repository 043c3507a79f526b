/- Packet sets: how many boxes a result can have. -/
import Derived.Test.YtokmdghjgegclaaGreatDoorProg
import Derived.Test.YtokmdghjgegclaaGreatDoorM12
set_option linter.unusedVariables false
set_option linter.unusedSimpArgs false
set_option maxRecDepth 100000
set_option maxHeartbeats 4000000
namespace Go.Proofs.YtokmdghjgegclaaGreatDoor
open Go Go.Vm
theorem grow_le(out:List (Grp (List Bx)))(s:Int×Int)(rest:List Bx):sizeG (grow eqB out s rest)<=sizeG out+rest.length:=by
 unfold grow
 split
 ·exact Nat.le_add_right _ _
 ·rcases List.eq_nil_or_concat out with hn|⟨ini,g,hc⟩
  ·subst hn;simp[sizeG]
  ·rw[List.concat_eq_append]at hc
   subst hc
   simp only[List.getLast?_append,List.getLast?_singleton,Option.some_or,List.dropLast_concat]
   split
   ·simp only[sizeG_snoc];omega
   ·simp only[sizeG_snoc];omega
theorem segs_fst(top:Int):∀st:List Int,(segs top st).map (·.1)=st
 |[]=>rfl
 |[x]=>rfl
 |x::y::r=>by
  have:=segs_fst top (y::r)
  simp only[segs,List.map_cons,this]
theorem groups_le(R:Int->List Bx)(top:Int)(st:List Int):sizeG (groupsOf R top st)<=(st.map fun e=>(R e).length).sum:=by
 have go:∀(l:List (Int×Int)) (out:List (Grp (List Bx))),sizeG (l.foldl (fun out s=>grow eqB out s (R s.1)) out)<=sizeG out+(l.map fun s=>(R s.1).length).sum:=by
  intro l
  induction l with
  |nil=>intro out;simp
  |cons s l ih=>
   intro out
   have h1:=ih (grow eqB out s (R s.1))
   have h2:=grow_le out s (R s.1)
   simp only[List.foldl_cons,List.map_cons,List.sum_cons]
   omega
 have h:=go (segs top st) []
 have e:(segs top st).map (fun s=>(R s.1).length)=st.map fun e=>(R e).length:=by
  have:=congrArg (List.map fun e=>(R e).length) (segs_fst top st)
  rw[List.map_map]at this
  exact this
 rw[e]at h
 simpa[sizeG,groupsOf]using h
theorem starts_from(l:List Rg)(top:Int):∀x,x∈starts l top->x=0\/∃r,r∈l/\(x=r.lo\/x=r.hi+1):=by
 have go:∀(m:List Rg) (out:List Int),(∀x,x∈out->x=0\/∃r,r∈l/\(x=r.lo\/x=r.hi+1))->(∀r,r∈m->r∈l)->∀x,x∈m.foldl (stP top) out->x=0\/∃r,r∈l/\(x=r.lo\/x=r.hi+1):=by
  intro m
  induction m with
  |nil=>intro out h _ x hx;exact h x hx
  |cons r m ih=>
   intro out h hm x hx
   refine ih (stP top out r) (fun y hy=>?_) (fun z hz=>hm z (List.mem_cons_of_mem _ hz)) x hx
   unfold stP at hy
   split at hy
   ·rw[mem_insT,mem_insT]at hy
    rcases hy with(hy|⟨hy,_⟩)|⟨hy,_⟩
    ·exact h y hy
    ·exact .inr ⟨r,hm r (by simp),.inl hy⟩
    ·exact .inr ⟨r,hm r (by simp),.inr hy⟩
   ·exact h y hy
 exact go l [0] (fun x hx=>.inl (by simpa using hx)) fun r hr=>hr
theorem nodup_sub:∀{l m:List Int},l.Nodup->(∀x,x∈l->x∈m)->l.length<=m.length
 |[],m,_,_=>Nat.zero_le _
 |x::l,m,hn,hs=>by
  obtain⟨h1,h2⟩:=List.nodup_cons.1 hn
  have hx:=hs x (by simp)
  have:=nodup_sub (m:=m.erase x) h2 fun y hy=>by
   have hne:y≠x:=fun e=>h1 (e▸hy)
   exact(List.mem_erase_of_ne hne).2 (hs y (List.mem_cons_of_mem _ hy))
  rw[List.length_erase_of_mem hx]at this
  have hpos:0<m.length:=List.length_pos_of_mem hx
  simp only[List.length_cons]
  omega
def Cn:Nat->List Bx->Prop
 |0,a=>a.length<=1
 |k+1,a=>(∀x,x∈a->∀y,y∈a->x.get (4-k)=y.get (4-k)\/(x.get (4-k)).hi<(y.get (4-k)).lo\/(y.get (4-k)).hi<(x.get (4-k)).lo)/\(∀x,x∈a->(x.get (4-k)).lo<=(x.get (4-k)).hi)/\∀v,Cn k (atF (4-k) v a)
theorem atF_map{φ:Bx->Bx}{f:Nat}{v:Int}(h:∀b,(φ b).get f=b.get f)(l:List Bx):atF f v (l.map φ)=(atF f v l).map φ:=by
 rw[atF,atF,List.filter_map]
 congr 1
 refine List.filter_congr fun b _=>?_
 simp only[Function.comp,h]
theorem Cn.map{φ:Bx->Bx}:∀{k:Nat} {l:List Bx},k<=5->(∀b f,f<=4->5<=f+k->(φ b).get f=b.get f)->Cn k l->Cn k (l.map φ)
 |0,l,_,_,h=>by rw[Cn]at h⊢;rw[List.length_map];exact h
 |k+1,l,hk,hφ,h=>by
  obtain⟨h1,h2,h3⟩:=h
  have hf:∀b,(φ b).get (4-k)=b.get (4-k):=fun b=>hφ b (4-k) (by omega) (by omega)
  refine⟨fun x hx y hy=>?_,fun x hx=>?_,fun v=>?_⟩
  ·obtain⟨x,gx,rfl⟩:=List.mem_map.1 hx
   obtain⟨y,gy,rfl⟩:=List.mem_map.1 hy
   rw[hf,hf];exact h1 x gx y gy
  ·obtain⟨x,gx,rfl⟩:=List.mem_map.1 hx
   rw[hf];exact h2 x gx
  ·rw[atF_map hf]
   exact Cn.map (by omega) (fun b f h4 h5=>hφ b f h4 (by omega)) (h3 v)
theorem Cn.nil:∀(k:Nat),Cn k []
 |0=>Nat.zero_le _
 |k+1=>⟨fun x hx=>by simp at hx,fun x hx=>by simp at hx,fun v=>Cn.nil k⟩
theorem atF_flatG{f:Nat}(hf:f<=4){v:Int}:∀{gs:List (Grp (List Bx))},Wf gs->(∀g,g∈gs->0<=g.lo/\g.hi<=4294967295)->(atF f v (flatG f gs)=[]\/∃g,g∈gs/\g.lo<=v/\v<=g.hi/\atF f v (flatG f gs)=g.val.map fun b=>b.put f (mkR g.lo g.hi))
 |[],_,_=>.inl rfl
 |g::gs,hw,hb=>by
  have hg:=hb g (by simp)
  have hle:=hw.head
  have e:atF f v (flatG f (g::gs))=atF f v (g.val.map fun b=>b.put f (mkR g.lo g.hi))++atF f v (flatG f gs):=by
   rw[flatG,List.flatMap_cons,atF,List.filter_append];rfl
  have hget:∀b:Bx,(b.put f (mkR g.lo g.hi)).get f=mkR g.lo g.hi:=fun b=>get_put hf
  have m1:=mkR_lo hg.1 (show g.lo<=4294967295 by omega) (show 0<=g.hi by omega) hg.2
  have m2:=mkR_hi hg.1 (show g.lo<=4294967295 by omega) (show 0<=g.hi by omega) hg.2
  have ih:=atF_flatG hf (v:=v) hw.tail fun x hx=>hb x (List.mem_cons_of_mem _ hx)
  by_cases hc:g.lo<=v/\v<=g.hi
  ·have e1:atF f v (g.val.map fun b=>b.put f (mkR g.lo g.hi))=g.val.map fun b=>b.put f (mkR g.lo g.hi):=List.filter_eq_self.2 fun x hx=>by
    obtain⟨b,_,rfl⟩:=List.mem_map.1 hx
    rw[hget,m1,m2,decide_eq_true hc.1,decide_eq_true hc.2];rfl
   have e2:atF f v (flatG f gs)=[]:=by
    rcases ih with h|⟨h,hh,h1,h2,_⟩
    ·exact h
    ·have:=hw.above h hh;omega
   exact .inr ⟨g,by simp,hc.1,hc.2,by rw[e,e1,e2,List.append_nil]⟩
  ·have e1:atF f v (g.val.map fun b=>b.put f (mkR g.lo g.hi))=[]:=List.filter_eq_nil_iff.2 fun x hx=>by
    obtain⟨b,_,rfl⟩:=List.mem_map.1 hx
    rw[hget,m1,m2,Bool.and_eq_true,decide_eq_true_eq,decide_eq_true_eq];exact hc
   rw[e,e1,List.nil_append]
   rcases ih with h|⟨h,hh,h1⟩
   ·exact .inl h
   ·exact .inr ⟨h,List.mem_cons_of_mem _ hh,h1⟩
theorem wf_apart:∀{gs:List (Grp (List Bx))},Wf gs->∀g,g∈gs->∀h,h∈gs->g=h\/g.hi<h.lo\/h.hi<g.lo
 |[],_,g,hg,_,_=>by simp at hg
 |x::gs,hw,g,hg,h,hh=>by
  rcases List.mem_cons.1 hg with e1|g1
  ·rcases List.mem_cons.1 hh with e2|h1
   ·exact .inl (e1.trans e2.symm)
   ·subst e1;exact .inr (.inl (hw.above h h1).1)
  ·rcases List.mem_cons.1 hh with e2|h1
   ·subst e2;exact .inr (.inr (hw.above g g1).1)
   ·exact wf_apart hw.tail g g1 h h1
theorem cano_cn(op:Bool->Bool->Bool):∀(k:Nat) (a b:List Bx),k<=5->Cn k (cano op k a b)
 |0,a,b,_=>by rw[cano,Cn];split<;>simp
 |k+1,a,b,hk=>by
  have g:=cano_wf op k a b
  have ht:=topF_pos (4-k)
  rw[cano_succ]
  have hat:∀x,x∈groupsOf (restAt op k a b) (topF (4-k)) (starts (rngs (4-k) a b) (topF (4-k)))->x.val=restAt op k a b x.lo:=fun x hx=>by
   have h1:=g.low x hx
   have h2:=g.wf.le x hx
   have:=g.wf.at_mem hx (Int.le_refl _) h2
   rw[g.at_,if_pos (by omega),lab]at this
   split at this
   ·cases this
   ·exact(Option.some.inj this).symm
  generalize groupsOf (restAt op k a b) (topF (4-k)) (starts (rngs (4-k) a b) (topF (4-k)))=G at*
  have hb:∀x,x∈G->0<=x.lo/\x.hi<=4294967295:=fun x hx=>by have:=g.low x hx;omega
  have rg:∀x,x∈flatG (4-k) G->∃gr,gr∈G/\(x.get (4-k)).lo=gr.lo/\(x.get (4-k)).hi=gr.hi:=fun x hx=>by
   obtain⟨gr,hgr,hx⟩:=List.mem_flatMap.1 hx
   obtain⟨z,_,rfl⟩:=List.mem_map.1 hx
   have h1:=hb gr hgr
   have h2:=g.wf.le gr hgr
   refine⟨gr,hgr,?_,?_⟩
   ·rw[get_put (by omega),mkR_lo (by omega) (by omega) (by omega) (by omega)]
   ·rw[get_put (by omega),mkR_hi (by omega) (by omega) (by omega) (by omega)]
  refine⟨fun x hx y hy=>?_,fun x hx=>?_,fun v=>?_⟩
  ·obtain⟨gx,hgx,x1,x2⟩:=rg x hx
   obtain⟨gy,hgy,y1,y2⟩:=rg y hy
   rcases wf_apart g.wf gx hgx gy hgy with h|h|h
   ·subst h
    left
    have e1:(x.get (4-k)).lo=(y.get (4-k)).lo:=by rw[x1,y1]
    have e2:(x.get (4-k)).hi=(y.get (4-k)).hi:=by rw[x2,y2]
    generalize x.get (4-k)=r at*
    generalize y.get (4-k)=s at*
    cases r;cases s
    simp only at e1 e2
    subst e1;subst e2;rfl
   ·right;left;omega
   ·right;right;omega
  ·obtain⟨gx,hgx,x1,x2⟩:=rg x hx
   have:=g.wf.le gx hgx
   omega
  ·rcases atF_flatG (f:=4-k) (by omega) (v:=v) g.wf hb with h|⟨gr,hgr,_,_,h⟩
   ·rw[h];exact Cn.nil k
   ·rw[h]
    refine Cn.map (by omega) (fun b f h4 h5=>get_put_ne (by omega) h4 (by omega)) ?_
    rw[hat gr hgr]
    exact cano_cn op k _ _ (by omega)
/-! ### Counting -/
def inR(r:Rg)(e:Int):Bool:=decide (r.lo<=e)&&decide (e<=r.hi)
theorem atF_cons(f:Nat)(e:Int)(x:Bx)(l:List Bx):(atF f e (x::l)).length=(if inR (x.get f) e then 1 else 0)+(atF f e l).length:=by
 rw[atF,List.filter_cons,inR]
 split
 ·simp[atF,Nat.add_comm]
 ·simp[atF]
theorem sum_ite(p:Int->Bool)(st:List Int):(st.map fun e=>if p e=true then 1 else 0).sum=(st.filter p).length:=by
 induction st with
 |nil=>rfl
 |cons e st ih=>
  rw[List.map_cons,List.sum_cons,ih,List.filter_cons]
  split<;>simp<;>omega
theorem sum_add(f g:Int->Nat)(st:List Int):(st.map fun e=>f e+g e).sum=(st.map f).sum+(st.map g).sum:=by
 induction st with
 |nil=>rfl
 |cons e st ih=>simp only[List.map_cons,List.sum_cons,ih];omega
theorem sum_mono{f g:Int->Nat}{st:List Int}(h:∀e,e∈st->f e<=g e):(st.map f).sum<=(st.map g).sum:=by
 induction st with
 |nil=>exact Nat.le_refl _
 |cons e st ih=>
  have h1:=h e (by simp)
  have h2:=ih fun x hx=>h x (List.mem_cons_of_mem _ hx)
  simp only[List.map_cons,List.sum_cons];omega
theorem sum_mulL(c:Nat)(f:Int->Nat)(st:List Int):(st.map fun e=>c*f e).sum=c*(st.map f).sum:=by
 induction st with
 |nil=>rfl
 |cons e st ih=>simp only[List.map_cons,List.sum_cons,ih,Nat.mul_add]
theorem sum_at_le{f:Nat}{st:List Int}{N:Nat}:∀{a:List Bx},(∀x,x∈a->(st.filter (inR (x.get f))).length<=N)->(st.map fun e=>(atF f e a).length).sum<=a.length*N
 |[],_=>by
  rw[show(st.map fun e=>(atF f e []).length)=st.map fun _=>0 from rfl]
  have:∀l:List Int,(l.map fun _=>0).sum=0:=by
   intro l;induction l with
   |nil=>rfl
   |cons x l ih=>simpa using ih
  rw[this];exact Nat.zero_le _
 |x::a,h=>by
  have ih:=sum_at_le (a:=a) fun y hy=>h y (List.mem_cons_of_mem _ hy)
  have hx:=h x (by simp)
  have e:(st.map fun e=>(atF f e (x::a)).length)=st.map fun e=>(if inR (x.get f) e=true then 1 else 0)+(atF f e a).length:=by
   refine List.map_congr_left fun e _=>?_
   rw[atF_cons]
  rw[e,sum_add,sum_ite,List.length_cons,Nat.add_mul]
  omega
theorem filter_nodup{st:List Int}(h:st.Pairwise (· < ·))(p:Int->Bool):(st.filter p).Nodup:=by
 refine List.Pairwise.imp ?_ (List.Pairwise.filter p h)
 intro a b hab e
 omega
def FromB(f:Nat)(c d:List Bx)(e:Int):Prop:=e=0\/(∃y,y∈c/\(e=(y.get f).lo\/e=(y.get f).hi+1))\/∃y,y∈d/\(e=(y.get f).lo\/e=(y.get f).hi+1)
theorem from_starts(f:Nat)(a b:List Bx)(top:Int):∀e,e∈starts (rngs f a b) top->FromB f a b e:=fun e he=>by
 rcases starts_from _ _ e he with h0|⟨r,hr,hre⟩
 ·exact .inl h0
 ·rcases List.mem_append.1 hr with hr|hr
  ·obtain⟨y,hy,rfl⟩:=List.mem_map.1 hr
   exact .inr (.inl ⟨y,hy,hre⟩)
  ·obtain⟨y,hy,rfl⟩:=List.mem_map.1 hr
   exact .inr (.inr ⟨y,hy,hre⟩)
theorem FromB.symm{f:Nat}{c d:List Bx}{e:Int}(h:FromB f c d e):FromB f d c e:=by
 rcases h with h|h|h
 ·exact .inl h
 ·exact .inr (.inr h)
 ·exact .inr (.inl h)
theorem cut_in{k:Nat}{c d:List Bx}(hc:Cn (k+1) c){x:Bx}(hx:x∈c){e:Int}(he:FromB (4-k) c d e)(h1:(x.get (4-k)).lo<=e)(h2:e<=(x.get (4-k)).hi):e=(x.get (4-k)).lo\/∃y,y∈d/\(e=(y.get (4-k)).lo\/e=(y.get (4-k)).hi+1):=by
 rcases he with h0|⟨y,hy,hre⟩|h
 ·have:=(x.get (4-k)).l0
  left;omega
 ·left
  have hy2:=hc.2.1 y hy
  rcases hc.1 x hx y hy with h|h|h
  ·rw[<-h]at hre;omega
  ·omega
  ·omega
 ·exact .inr h
theorem cnt_le{k:Nat}{c d:List Bx}{st:List Int}(hs:st.Pairwise (· < ·))(hf:∀e,e∈st->FromB (4-k) c d e)(hc:Cn (k+1) c){x:Bx}(hx:x∈c):(st.filter (inR (x.get (4-k)))).length<=1+2*d.length:=by
 have hsub:=nodup_sub (filter_nodup hs (inR (x.get (4-k)))) (m:=(x.get (4-k)).lo::(d.flatMap fun y=>[(y.get (4-k)).lo,(y.get (4-k)).hi+1])) fun e he=>by
  obtain⟨h1,h2⟩:=List.mem_filter.1 he
  rw[inR,Bool.and_eq_true,decide_eq_true_eq,decide_eq_true_eq]at h2
  rcases cut_in hc hx (hf e h1) h2.1 h2.2 with h|⟨y,hy,h⟩
  ·rw[h];exact List.mem_cons_self
  ·refine List.mem_cons_of_mem _ (List.mem_flatMap.2 ⟨y,hy,?_⟩)
   rcases h with h|h
   ·simp[h]
   ·simp[h]
 have hlen:∀b:List Bx,(b.flatMap fun y=>[(y.get (4-k)).lo,(y.get (4-k)).hi+1]).length=2*b.length:=by
  intro b
  induction b with
  |nil=>rfl
  |cons y b ih=>rw[List.flatMap_cons,List.length_append,ih];simp;omega
 rw[List.length_cons,hlen]at hsub
 omega
theorem cnt2_le{k:Nat}{a b:List Bx}{st:List Int}(hs:st.Pairwise (· < ·))(hf:∀e,e∈st->FromB (4-k) a b e)(ha:Cn (k+1) a)(hb:Cn (k+1) b){x y:Bx}(hx:x∈a)(hy:y∈b):
  ((st.filter (inR (x.get (4-k)))).filter (inR (y.get (4-k)))).length<=2:=by
 have hsub:=nodup_sub (List.Nodup.sublist List.filter_sublist (filter_nodup hs (inR (x.get (4-k))))) (l:=(st.filter (inR (x.get (4-k)))).filter (inR (y.get (4-k)))) (m:=[(x.get (4-k)).lo,(y.get (4-k)).lo]) fun e he=>by
  obtain⟨h1,h3⟩:=List.mem_filter.1 he
  obtain⟨h1,h2⟩:=List.mem_filter.1 h1
  rw[inR,Bool.and_eq_true,decide_eq_true_eq,decide_eq_true_eq]at h2 h3
  have hx2:=ha.2.1 x hx
  have hy2:=hb.2.1 y hy
  rcases hf e h1 with h|h|h
  ·have:=(x.get (4-k)).l0
   have e1:e=(x.get (4-k)).lo:=by omega
   rw[e1];simp
  ·rcases cut_in (d:=[]) ha hx (.inr (.inl h)) h2.1 h2.2 with h|⟨z,hz,_⟩
   ·rw[h];simp
   ·simp at hz
  ·rcases cut_in (d:=[]) hb hy (.inr (.inl h)) h3.1 h3.2 with h|⟨z,hz,_⟩
   ·rw[h];simp
   ·simp at hz
 simpa using hsub
theorem sum_ite_mul(p:Int->Bool)(g:Int->Nat)(st:List Int):(st.map fun e=>(if p e=true then 1 else 0)*g e).sum=((st.filter p).map g).sum:=by
 induction st with
 |nil=>rfl
 |cons e st ih=>
  rw[List.map_cons,List.sum_cons,ih,List.filter_cons]
  split<;>simp
theorem sum_at2_le{f N:Nat}{b:List Bx}{st:List Int}:∀{a:List Bx},(∀x,x∈a->∀y,y∈b->((st.filter (inR (x.get f))).filter (inR (y.get f))).length<=N)->(st.map fun e=>(atF f e a).length*(atF f e b).length).sum<=a.length*(b.length*N)
 |[],_=>by
  have:∀l:List Int,(l.map fun e=>(atF f e []).length*(atF f e b).length).sum=0:=by
   intro l;induction l with
   |nil=>rfl
   |cons x l ih=>rw[List.map_cons,List.sum_cons,ih];simp[atF]
  rw[this];exact Nat.zero_le _
 |x::a,h=>by
  have ih:=sum_at2_le (a:=a) fun y hy=>h y (List.mem_cons_of_mem _ hy)
  have hx:=sum_at_le (f:=f) (st:=st.filter (inR (x.get f))) (N:=N) (a:=b) fun y hy=>h x (by simp) y hy
  have e:(st.map fun e=>(atF f e (x::a)).length*(atF f e b).length)=st.map fun e=>(if inR (x.get f) e=true then 1 else 0)*(atF f e b).length+(atF f e a).length*(atF f e b).length:=by
   refine List.map_congr_left fun e _=>?_
   rw[atF_cons,Nat.add_mul]
  rw[e,sum_add,sum_ite_mul,List.length_cons,Nat.add_mul]
  omega
theorem sum_one(st:List Int):(st.map fun _=>1).sum=st.length:=by
 induction st with
 |nil=>rfl
 |cons e st ih=>simp only[List.map_cons,List.sum_cons,ih,List.length_cons];omega
theorem bound1(op:Bool->Bool->Bool)(m:Nat):∀(k:Nat) (a b:List Bx),k<=5->Cn k a->b.length<=m->(cano op k a b).length<=(a.length+1)*(2*m+3)^k
 |0,a,b,_,_,_=>by
  rw[cano,Nat.pow_zero,Nat.mul_one]
  split<;>simp
 |k+1,a,b,hk,ha,hb=>by
  rw[cano_succ,flatG_len]
  refine Nat.le_trans (groups_le _ _ _) ?_
  have hstl:=starts_length (rngs (4-k) a b) (topF_pos (4-k)).1
  have hrl:(rngs (4-k) a b).length=a.length+b.length:=by rw[rngs,List.length_append,List.length_map,List.length_map]
  have h1:((starts (rngs (4-k) a b) (topF (4-k))).map fun e=>(restAt op k a b e).length).sum<=((starts (rngs (4-k) a b) (topF (4-k))).map fun e=>(2*m+3)^k*((atF (4-k) e a).length+1)).sum:=sum_mono fun e _=>by
   have:=bound1 op m k (atF (4-k) e a) (atF (4-k) e b) (by omega) (ha.2.2 e) (Nat.le_trans (List.length_filter_le ..) hb)
   rw[Nat.mul_comm]
   exact this
  have h2:=sum_at_le (f:=4-k) (st:=starts (rngs (4-k) a b) (topF (4-k))) (N:=1+2*b.length) (a:=a) fun x hx=>cnt_le (starts_inv (rngs (4-k) a b) (topF_pos (4-k)).1).sorted (from_starts (4-k) a b (topF (4-k))) ha hx
  generalize starts (rngs (4-k) a b) (topF (4-k))=st at*
  have h3:(st.map fun e=>(atF (4-k) e a).length+1).sum=(st.map fun e=>(atF (4-k) e a).length).sum+st.length:=by
   rw[sum_add]
   congr 1
   clear h1 h2 hstl
   induction st with
   |nil=>rfl
   |cons e st ih=>simp only[List.map_cons,List.sum_cons,ih,List.length_cons];omega
  rw[sum_mulL,h3]at h1
  refine Nat.le_trans h1 ?_
  have h4:(st.map fun e=>(atF (4-k) e a).length).sum+st.length<=(a.length+1)*(2*m+3):=by
   have h5:a.length*(1+2*b.length)<=a.length*(1+2*m):=Nat.mul_le_mul_left _ (by omega)
   have h6:(a.length+1)*(2*m+3)=a.length*(1+2*m)+2*a.length+(2*m+3):=by
    rw[Nat.add_mul,Nat.one_mul,Nat.mul_add,Nat.mul_add,Nat.mul_one];omega
   rw[h6,hrl]at*
   omega
  calc(2*m+3)^k*((st.map fun e=>(atF (4-k) e a).length).sum+st.length)<=(2*m+3)^k*((a.length+1)*(2*m+3)):=Nat.mul_le_mul_left _ h4
   _=(a.length+1)*(2*m+3)^(k+1):=by rw[Nat.pow_succ,Nat.mul_left_comm]
theorem bound2(op:Bool->Bool->Bool):∀(k:Nat) (a b:List Bx),k<=5->Cn k a->Cn k b->(cano op k a b).length<=6^k*((a.length+1)*(b.length+1))
 |0,a,b,_,_,_=>by
  have h1:1<=(a.length+1)*(b.length+1):=Nat.mul_pos (by omega) (by omega)
  rw[cano,Nat.pow_zero,Nat.one_mul]
  split
  ·exact h1
  ·exact Nat.zero_le _
 |k+1,a,b,hk,ha,hb=>by
  rw[cano_succ,flatG_len]
  refine Nat.le_trans (groups_le _ _ _) ?_
  have hstl:=starts_length (rngs (4-k) a b) (topF_pos (4-k)).1
  have hrl:(rngs (4-k) a b).length=a.length+b.length:=by rw[rngs,List.length_append,List.length_map,List.length_map]
  have hs:=(starts_inv (rngs (4-k) a b) (topF_pos (4-k)).1).sorted
  have hf:=from_starts (4-k) a b (topF (4-k))
  have h1:((starts (rngs (4-k) a b) (topF (4-k))).map fun e=>(restAt op k a b e).length).sum<=((starts (rngs (4-k) a b) (topF (4-k))).map fun e=>6^k*(((atF (4-k) e a).length*(atF (4-k) e b).length+(atF (4-k) e a).length)+((atF (4-k) e b).length+1))).sum:=sum_mono fun e _=>by
   have:=bound2 op k (atF (4-k) e a) (atF (4-k) e b) (by omega) (ha.2.2 e) (hb.2.2 e)
   have e2:((atF (4-k) e a).length*(atF (4-k) e b).length+(atF (4-k) e a).length)+((atF (4-k) e b).length+1)=((atF (4-k) e a).length+1)*((atF (4-k) e b).length+1):=by
    rw[Nat.add_mul,Nat.mul_add,Nat.mul_one,Nat.one_mul]
   rw[e2]
   exact this
  have h2:=sum_at_le (f:=4-k) (st:=starts (rngs (4-k) a b) (topF (4-k))) (N:=1+2*b.length) (a:=a) fun x hx=>cnt_le hs hf ha hx
  have h3:=sum_at_le (f:=4-k) (st:=starts (rngs (4-k) a b) (topF (4-k))) (N:=1+2*a.length) (a:=b) fun x hx=>cnt_le hs (fun e he=>(hf e he).symm) hb hx
  have h4:=sum_at2_le (f:=4-k) (st:=starts (rngs (4-k) a b) (topF (4-k))) (N:=2) (a:=a) (b:=b) fun x hx y hy=>cnt2_le hs hf ha hb hx hy
  generalize starts (rngs (4-k) a b) (topF (4-k))=st at*
  rw[sum_mulL,sum_add,sum_add,sum_add,sum_one]at h1
  refine Nat.le_trans h1 ?_
  have h5:(st.map fun e=>(atF (4-k) e a).length*(atF (4-k) e b).length).sum+(st.map fun e=>(atF (4-k) e a).length).sum+((st.map fun e=>(atF (4-k) e b).length).sum+st.length)<=6*((a.length+1)*(b.length+1)):=by
   have e1:a.length*(1+2*b.length)=a.length+2*(a.length*b.length):=by rw[Nat.mul_add,Nat.mul_one,Nat.mul_left_comm]
   have e2:b.length*(1+2*a.length)=b.length+2*(a.length*b.length):=by rw[Nat.mul_add,Nat.mul_one,Nat.mul_left_comm,Nat.mul_comm b.length]
   have e3:a.length*(b.length*2)=2*(a.length*b.length):=by rw[Nat.mul_comm b.length,Nat.mul_left_comm]
   have e4:(a.length+1)*(b.length+1)=a.length*b.length+a.length+b.length+1:=by rw[Nat.add_mul,Nat.mul_add,Nat.mul_one,Nat.one_mul];omega
   rw[e1]at h2;rw[e2]at h3;rw[e3]at h4;rw[e4];rw[hrl]at hstl
   omega
  calc 6^k*_<=6^k*(6*((a.length+1)*(b.length+1))):=Nat.mul_le_mul_left _ h5
   _=6^(k+1)*((a.length+1)*(b.length+1)):=by rw[Nat.pow_succ,Nat.mul_assoc]
structure PSet (l:List Bx):Prop where
 len:l.length<=4096
 cn:Cn 5 l
theorem pset_nil:PSet []:=⟨Nat.zero_le _,Cn.nil 5⟩
theorem room1(op:Bool->Bool->Bool){s b:List Bx}(h:PSet s)(hb:b.length<=20):(cano op 5 s b).length<=900000000000:=by
 have h1:=bound1 op b.length 5 s b (Nat.le_refl _) h.cn (Nat.le_refl _)
 have h2:(2*b.length+3)^5<=43^5:=Nat.pow_le_pow_left (by omega) 5
 have h3:(s.length+1)*(2*b.length+3)^5<=4097*43^5:=Nat.mul_le_mul (by have:=h.len;omega) h2
 have h4:4097*43^5<=900000000000:=by decide
 omega
theorem room2(op:Bool->Bool->Bool){s b:List Bx}(h:PSet s)(hb:PSet b):(cano op 5 s b).length<=900000000000:=by
 have h1:=bound2 op 5 s b (Nat.le_refl _) h.cn hb.cn
 have h3:6^5*((s.length+1)*(b.length+1))<=6^5*(4097*4097):=Nat.mul_le_mul_left _ (Nat.mul_le_mul (by have:=h.len;omega) (by have:=hb.len;omega))
 have h4:6^5*(4097*4097)<=900000000000:=by decide
 omega
theorem vldB_all{l:List Bx}(h:(vldB l).length=l.length):∀x,x∈l->x.ok:=by
 have:=List.length_filter_eq_length_iff.1 h
 intro x hx
 simpa using this x hx
theorem ok_get{x:Bx}(h:x.ok):∀f,f<=4->(x.get f).lo<=(x.get f).hi/\(x.get f).hi<=topF f:=by
 obtain⟨h0,h1,h2,h3,h4⟩:=h
 intro f hf
 rcases f with _|_|_|_|_|f
 all_goals first|assumption|omega
theorem setB_same{l:List Bx}(h:setB l=true):cano orB 5 l []=l:=by
 unfold setB at h
 simp only[Bool.and_eq_true,decide_eq_true_eq]at h
 obtain⟨h1,h2,h3⟩:=h
 have hv:=vldB_all h2
 have:=(canB_iff 5 l (Nat.le_refl _) (fun x hx f hf _=>ok_get (hv x hx) f hf) (by omega)).1 h3
 rw[this]
 exact(List.map_congr_left fun x _=>zeroTo_five x).trans (List.map_id _)
theorem setB_pset{l:List Bx}(h:setB l=true):PSet l:=by
 refine⟨?_,?_⟩
 ·unfold setB at h
  simp only[Bool.and_eq_true,decide_eq_true_eq]at h
  exact h.1
 ·rw[<-setB_same h]
  exact cano_cn orB 5 l [] (Nat.le_refl _)
theorem cano_pset{op:Bool->Bool->Bool}{a b:List Bx}(h:(cano op 5 a b).length<=4096):PSet (cano op 5 a b):=⟨h,cano_cn op 5 a b (Nat.le_refl _)⟩
theorem makeGo_pset:∀(l s:List Bx),PSet s->PSet (makeGo s l).1
 |[],s,h=>h
 |b::l,s,h=>by
  rw[makeGo]
  split
  ·split
   ·exact pset_nil
   ·exact makeGo_pset l _ (cano_pset (by unfold addO at*;omega))
  ·exact makeGo_pset l s h
theorem makeP_pset(l:List Bx):PSet (makeP l).1:=makeGo_pset l [] pset_nil
theorem limE_ne{l:List Bx}:limE l≠0↔4096<l.length:=by
 unfold limE
 split
 ·simp;omega
 ·simp;omega
theorem cr4Make(l:List Bx)(hl:l.length<1000000000){K:KT}(hK:K (.tup [encXs (makeP l).1,.v (.int .i64 (makeP l).2)]) []):ACall Tryz.prog 84 [encXs l] [] K:=by
 refine ACall.weak (ofr4Make rfl rfl ?_)
 (repeat' ((conv=>whnf);first|refine zG ?_|apply zA|(apply zI;intro h)|exact zT));(all_goals conv=>whnf)
 refine Lp.intro (Nat×List Bx) (fun g=>⟨0,[],[(0,encXs l),(4,encXs g.2),(5,.v (.int .i64 g.1))]⟩) (fun g=>g.1<=l.length/\PSet g.2/\makeP l=makeGo g.2 (l.drop g.1)) (fun g=>l.length-g.1) (0,[]) ⟨Nat.zero_le _,pset_nil,by rw[List.drop_zero];rfl⟩ ?_ ?_
 ·(exact leA)
 rintro⟨i,s⟩ ⟨hi,hs,hm⟩
 simp only at hi hs hm⊢
 rcases Nat.lt_or_ge i l.length with hil|hil
 ·obtain⟨x,hx⟩:=gex hil
  have hd:l.drop i=x::l.drop (i+1):=by
   rw[List.getElem?_eq_getElem hil]at hx
   rw[<-Option.some.inj hx,<-List.drop_eq_getElem_cons hil]
  rw[hd,makeGo]at hm
  have hsl:∀{K:List AV->Prop},K ([x].map encX)->Sl (l.map encX) i (i+1-i) K:=fun {K} h=>by
   refine sl_map (by omega) ?_
   rw[Nat.add_sub_cancel_left,hd]
   exact h
  have hadd:∀{K:KT},K (encXs (addO s x)) []->ACall Tryz.prog 133 [encXs s,encXs [x],.v (.int .i64 0),.v (.int .i64 0)] [] K:=fun h=>cr4Rests 0 5 (Nat.le_refl _) s [x] (by have:=hs.len;simp only[List.length_cons,List.length_nil];omega) (room1 _ hs (by simp)) (by rw[opI_0];exact h)
  (repeat' ((conv=>whnf);first|(with_reducible first|refine in_map hil ?_|refine ix_map hx ?_|refine cr3Val x ?_|refine Sb.intro i (i+1) rfl (by omega) (by omega) (by rw[List.length_map];omega) ?_|refine hsl ?_|refine hadd ?_|refine cr4Lim (addO s x) ?_)|refine zG ?_|apply zA|(apply zI;intro h)|exact zT));(all_goals conv=>whnf)
  ·rename_i hb
   have he:=h
   have hlen:¬4096<(addO s x).length:=fun h=>limE_ne.2 h he
   rw[if_pos hb,if_neg hlen]at hm
   refine⟨(i+1,addO s x),⟨hil,cano_pset (by unfold addO at hlen;omega),hm⟩,by omega,?_⟩
   rw[show limP (addO s x)=addO s x from by unfold limP;rw[if_neg hlen]]
   dsimp only
   rw[Int.natCast_add,Int.natCast_one]
   (exact leA)
  ·rename_i hb
   have hne:=h
   rw[if_pos hb,if_pos (limE_ne.1 hne)]at hm
   rw[hm]at hK
   have h3:limE (addO s x)=3:=by
    unfold limE at hne⊢
    split<;>simp_all
   rw[h3]
   exact⟨_,Weak.tup2 Weak.nils Weak.refl,hK⟩
  ·have hb:=h
   rw[if_neg hb]at hm
   refine⟨(i+1,s),⟨hil,hs,hm⟩,by dsimp only;omega,?_⟩
   dsimp only
   rw[Int.natCast_add,Int.natCast_one]
   (exact leA)
 ·rw[List.drop_of_length_le hil,makeGo]at hm
  rw[hm]at hK
  (repeat' ((conv=>whnf);first|refine zG ?_|apply zA|(apply zI;intro h)|exact zT));(all_goals conv=>whnf)
  exact⟨_,Weak.refl,hK⟩
def givP(l:List Bx):List Bx×Int:=if setB l then(l,0)else makeP l
theorem givP_pset(l:List Bx):PSet (givP l).1:=by
 unfold givP
 split
 ·exact setB_pset (by assumption)
 ·exact makeP_pset l
theorem cr4Giv(l:List Bx)(hl:l.length<1000000000){K:KT}(hK:K (.tup [encXs (givP l).1,.v (.int .i64 (givP l).2)]) []):ACall Tryz.prog 135 [encXs l] [] K:=by
 refine ACall.weak (ofr4Giv rfl rfl ?_)
 unfold givP at hK
 (repeat' ((conv=>whnf);first|(with_reducible first|refine cr4Vald l hl ?_|refine cr4Make l hl ?_)|refine zG ?_|apply zA|(apply zI;intro h)|exact zT));(all_goals conv=>whnf)
 all_goals simp_all
 all_goals exact⟨_,Weak.refl,hK⟩
def combP(op:Bool->Bool->Bool)(a b:List Bx):List Bx×Int:=
 if(givP a).2≠0 then([],(givP a).2)else if(givP b).2≠0 then([],(givP b).2)else(limP (cano op 5 (givP a).1 (givP b).1),limE (cano op 5 (givP a).1 (givP b).1))
theorem cr4Comb(c:Int)(a b:List Bx)(ha:a.length<1000000000)(hb:b.length<1000000000){K:KT}(hK:K (.tup [encXs (combP (opI c) a b).1,.v (.int .i64 (combP (opI c) a b).2)]) []):ACall Tryz.prog 86 [encXs a,encXs b,.v (.int .i64 c)] [] K:=by
 refine ACall.weak (ofr4Comb rfl rfl ?_)
 unfold combP at hK
 have hr:∀{K:KT},K (encXs (cano (opI c) 5 (givP a).1 (givP b).1)) []->ACall Tryz.prog 133 [encXs (givP a).1,encXs (givP b).1,.v (.int .i64 c),.v (.int .i64 0)] [] K:=fun h=>cr4Rests c 5 (Nat.le_refl _) _ _ (by have:=(givP_pset a).len;have:=(givP_pset b).len;omega) (room2 _ (givP_pset a) (givP_pset b)) h
 (repeat' ((conv=>whnf);first|(with_reducible first|refine cr4Giv a ha ?_|refine cr4Giv b hb ?_|refine hr ?_|refine cr4Lim _ ?_)|refine zG ?_|apply zA|(apply zI;intro h)|exact zT));(all_goals conv=>whnf)
 all_goals simp_all
 all_goals first|exact⟨_,Weak.refl,hK⟩|exact⟨_,Weak.tup2 Weak.nils Weak.refl,hK⟩
theorem cr4Canon(l:List Bx)(hl:l.length<50000)(hr:(cano orB 5 (vldB l) []).length<=900000000000){K:KT}(hK:K (encXs (cano orB 5 (vldB l) [])) []):ACall Tryz.prog 134 [encXs l] [] K:=by
 refine ACall.weak (ofr4Canon rfl rfl ?_)
 have hq:∀{K:KT},K (encXs (cano orB 5 (vldB l) [])) []->ACall Tryz.prog 133 [encXs (vldB l),.lst [],.v (.int .i64 0),.v (.int .i64 0)] [] K:=fun h=>cr4Rests 0 5 (Nat.le_refl _) _ [] (by have:=vldB_len l;simp only[List.length_nil];omega) (by rw[opI_0];exact hr) (by rw[opI_0];exact h)
 (repeat' ((conv=>whnf);first|(with_reducible first|refine cr4Val l (by omega) ?_|refine hq ?_)|refine zG ?_|apply zA|(apply zI;intro h)|exact zT));(all_goals conv=>whnf)
 exact⟨_,Weak.refl,hK⟩
def endsB(f:Nat)(l:List Bx):List Int:=l.flatMap fun x=>[(x.get f).lo,(x.get f).hi+1]
theorem endsB_mem{f:Nat}{l:List Bx}{z:Int}:z∈endsB f l↔∃x,x∈l/\(z=(x.get f).lo\/z=(x.get f).hi+1):=by
 simp[endsB]
theorem sorted_lt_last{st:List Int}{z:Int}(h:(st++[z]).Pairwise (· < ·)):∀x,x∈st->x<z:=fun x hx=>(List.pairwise_append.1 h).2.2 x hx z (by simp)
theorem cuts_of{f:Nat}{a b:List Bx}(hab:∀x,x∈a\/x∈b->(x.get f).lo<=(x.get f).hi/\(x.get f).hi<=topF f){st':List Int}(hs:st'.Pairwise (· < ·))(hm:∀z,z∈st'↔z=0\/z=topF f+1\/z∈endsB f a\/z∈endsB f b):
  ∃st,st'=st++[topF f+1]/\Cuts (topF f) (rngs f a b) st:=by
 have ht:=topF_pos f
 have hends:∀z,z∈endsB f a\/z∈endsB f b->0<=z/\z<=topF f+1:=by
  intro z hz
  have:∃x,(x∈a\/x∈b)/\(z=(x.get f).lo\/z=(x.get f).hi+1):=by
   rcases hz with hz|hz
   ·obtain⟨x,h1,h2⟩:=endsB_mem.1 hz;exact⟨x,.inl h1,h2⟩
   ·obtain⟨x,h1,h2⟩:=endsB_mem.1 hz;exact⟨x,.inr h1,h2⟩
  obtain⟨x,h1,h2⟩:=this
  have:=hab x h1
  have:=(x.get f).l0
  omega
 have hb:∀z,z∈st'->0<=z/\z<=topF f+1:=by
  intro z hz
  rcases(hm z).1 hz with h|h|h
  ·omega
  ·omega
  ·exact hends z h
 have htop:topF f+1∈st':=(hm _).2 (.inr (.inl rfl))
 have hzero:(0:Int)∈st':=(hm _).2 (.inl rfl)
 rcases List.eq_nil_or_concat st' with hn|⟨st,z,hc⟩
 ·rw[hn]at htop;cases htop
 rw[List.concat_eq_append]at hc
 subst hc
 have hlt:=sorted_lt_last hs
 have hz:z=topF f+1:=by
  rcases List.mem_append.1 htop with h|h
  ·have:=hlt _ h
   have:=hb z (by simp)
   omega
  ·simp at h;exact h.symm
 subst hz
 have hin:∀z,z∈st++[topF f+1]->z<=topF f->z∈st:=by
  intro z hz hle
  rcases List.mem_append.1 hz with h|h
  ·exact h
  ·simp at h;omega
 refine⟨st,rfl,?_,?_,?_,?_⟩
 ·exact(List.pairwise_append.1 hs).1
 ·intro x hx
  have:=hlt x hx
  have:=hb x (List.mem_append.2 (.inl hx))
  omega
 ·have h0:=hin 0 hzero ht.1
  cases st with
  |nil=>cases h0
  |cons y r=>
   refine⟨r,?_⟩
   have hp:=(List.pairwise_append.1 hs).1
   rcases List.mem_cons.1 h0 with h|h
   ·rw[h]
   ·have:=(List.pairwise_cons.1 hp).1 0 h
    have:=hb y (by simp)
    omega
 ·intro r hr hle
  have:∃x,(x∈a\/x∈b)/\r=x.get f:=by
   rw[rngs]at hr
   rcases List.mem_append.1 hr with h|h
   ·obtain⟨x,h1,rfl⟩:=List.mem_map.1 h;exact⟨x,.inl h1,rfl⟩
   ·obtain⟨x,h1,rfl⟩:=List.mem_map.1 h;exact⟨x,.inr h1,rfl⟩
  obtain⟨x,hx,rfl⟩:=this
  have e1:(x.get f).lo∈st++[topF f+1]:=(hm _).2 (.inr (.inr (hx.imp (fun h=>endsB_mem.2 ⟨x,h,.inl rfl⟩) (fun h=>endsB_mem.2 ⟨x,h,.inl rfl⟩))))
  have e2:(x.get f).hi+1∈st++[topF f+1]:=(hm _).2 (.inr (.inr (hx.imp (fun h=>endsB_mem.2 ⟨x,h,.inr rfl⟩) (fun h=>endsB_mem.2 ⟨x,h,.inr rfl⟩))))
  exact⟨fun h=>hin _ e1 h,fun h=>hin _ e2 h⟩
theorem segTo_next{top:Int}{st:List Int}{i:Nat}(h:i<st.length):(st++[top+1])[i+1]? =some (segTo top st i+1):=by
 unfold segTo
 rcases Nat.lt_or_ge (i+1) st.length with h1|h1
 ·rw[List.getElem?_append_left h1,List.getElem?_eq_getElem h1]
  simp
 ·rw[List.getElem?_append_right h1,List.getElem?_eq_none h1,show i+1-st.length=0 by omega]
  rfl
theorem grow_head{x t:Int}{rest:List Bx}{out:List (Grp (List Bx))}(s:Int×Int)(r:List Bx)(h:∃hi more,out=⟨x,hi,rest⟩::more):∃hi more,grow eqB out s r=⟨x,hi,rest⟩::more:=by
 obtain⟨hi,more,rfl⟩:=h
 unfold grow
 split
 ·exact⟨hi,more,rfl⟩
 ·rcases List.eq_nil_or_concat more with hn|⟨ini,g,hc⟩
  ·subst hn
   simp only[List.getLast?_singleton]
   split
   ·exact⟨s.2,[],rfl⟩
   ·exact⟨hi,_,rfl⟩
  ·rw[List.concat_eq_append]at hc
   subst hc
   rw[show(⟨x,hi,rest⟩::(ini++[g]):List (Grp (List Bx)))=(⟨x,hi,rest⟩::ini)++[g]from rfl]
   simp only[List.getLast?_append,List.getLast?_singleton,Option.some_or,List.dropLast_concat]
   split
   ·exact⟨hi,_,rfl⟩
   ·exact⟨hi,_,rfl⟩
theorem fold_head{R:Int->List Bx}{x:Int}{rest:List Bx}:∀(l:List (Int×Int)) (out:List (Grp (List Bx))),(∃hi more,out=⟨x,hi,rest⟩::more)->∃hi more,l.foldl (fun out s=>grow eqB out s (R s.1)) out=⟨x,hi,rest⟩::more
 |[],out,h=>h
 |s::l,out,h=>fold_head l _ (grow_head (t:=0) s (R s.1) h)
theorem gsAt_nil{R:Int->List Bx}{top:Int}{st:List Int}:∀(i:Nat),(∀(j:Nat) x,j<i->st[j]? =some x->R x=[])->gsAt R top st i=[]
 |0,_=>rfl
 |i+1,h=>by
  have ih:=gsAt_nil (R:=R) (top:=top) i fun j x hj hx=>h j x (by omega) hx
  cases hx:st[i]? with
  |none=>
   have hl:st.length<=i:=List.getElem?_eq_none_iff.1 hx
   rw[gsAt_all (by omega),<-gsAt_all hl,ih]
  |some x=>rw[gsAt_succ hx,ih,h i x (by omega) hx,grow_nil]
theorem groups_first{R:Int->List Bx}{top:Int}{st:List Int}{i:Nat}{x:Int}(hx:st[i]? =some x)(hne:R x≠[])(h:∀(j:Nat) y,j<i->st[j]? =some y->R y=[]):∃hi more,groupsOf R top st=⟨x,hi,R x⟩::more:=by
 have e:groupsOf R top st=((segs top st).drop (i+1)).foldl (fun out s=>grow eqB out s (R s.1)) (gsAt R top st (i+1)):=by
  rw[groupsOf,gsAt,<-List.foldl_append,List.take_append_drop]
 rw[e]
 refine fold_head _ _ ?_
 rw[gsAt_succ hx,gsAt_nil i h]
 refine⟨segTo top st i,[],?_⟩
 unfold grow
 have:(R x).isEmpty=false:=by cases hR:R x with
  |nil=>exact absurd hR hne
  |cons=>rfl
 rw[if_neg (by rw[this];decide)]
 rfl
def lows(l:List Bx):Nat->Int:=match l with
 |[]=>fun _=>0
 |b::_=>fun f=>(b.get f).lo
theorem lows_cano{op:Bool->Bool->Bool}{k:Nat}(hk:k<=4){a b:List Bx}{st:List Int}(hc:Cuts (topF (4-k)) (rngs (4-k) a b) st){i:Nat}{x:Int}(hx:st[i]? =some x)(hne:restAt op k a b x≠[])(h:∀(j:Nat) y,j<i->st[j]? =some y->restAt op k a b y=[]):
  cano op (k+1) a b≠[]/\lows (cano op (k+1) a b) (4-k)=x/\∀f,f<=4->f≠4-k->lows (cano op (k+1) a b) f=lows (restAt op k a b x) f:=by
 obtain⟨hi,more,hg⟩:=groups_first (top:=topF (4-k)) hx hne h
 have inv:=cano_ginv op k a b hc
 rw[cano_any op k a b hc,hg]
 rw[hg]at inv
 have hle:=inv.wf.head
 have hr:=hc.range x (List.mem_of_getElem? hx)
 have hhi:=inv.low ⟨x,hi,restAt op k a b x⟩ (by simp)
 have ht:=topF_pos (4-k)
 simp only at hhi hle
 obtain⟨y,ys,hy⟩:∃y ys,restAt op k a b x=y::ys:=by
  cases hR:restAt op k a b x with
  |nil=>exact absurd hR hne
  |cons y ys=>exact⟨y,ys,rfl⟩
 rw[hy]
 refine⟨by simp[flatG],?_,fun f hf hn=>?_⟩
 ·show((y.put (4-k) (mkR x hi)).get (4-k)).lo=x
  rw[get_put (by omega),mkR_lo (by omega) (by omega) (by omega) (by omega)]
 ·show((y.put (4-k) (mkR x hi)).get f).lo=(y.get f).lo
  rw[get_put_ne (by omega) hf hn]
def InP(p:Nat->Int):Prop:=∀f,0<=p f/\p f<=topF f
theorem inP_zero:InP fun _=>0:=fun f=>⟨Int.le_refl _,(topF_pos f).1⟩
theorem GInv.congr{β:Type}{R R':Int->List β}{l:List (Grp (List β))}{e:Int}(h:GInv R l e)(hR:∀v,0<=v->v<e->R v=R' v):GInv R' l e:=
 ⟨h.wf,fun v=>by
  rw[h.at_]
  by_cases hv:0<=v/\v<e
  ·rw[if_pos hv,if_pos hv,lab,lab,hR v hv.1 hv.2]
  ·rw[if_neg hv,if_neg hv],h.low,h.full⟩
theorem inK_congr{p q:Nat->Int}:∀(k:Nat) (b:Bx),k<=5->(∀f,f<=4->5<=f+k->p f=q f)->inK p k b=inK q k b
 |0,b,_,_=>rfl
 |k+1,b,hk,h=>by
  rw[inK,inK,h (4-k) (by omega) (by omega),inK_congr k b (by omega) fun f hf h5=>h f hf (by omega)]
theorem memK_congr{p q:Nat->Int}{k:Nat}{l:List Bx}(hk:k<=5)(h:∀f,f<=4->5<=f+k->p f=q f):memK p k l=memK q k l:=by
 rw[memK,memK]
 induction l with
 |nil=>rfl
 |cons b l ih=>rw[List.any_cons,List.any_cons,ih,inK_congr k b hk h]
theorem cano_ext(op:Bool->Bool->Bool):∀(k:Nat) (a b a' b':List Bx),k<=5->(∀p,InP p->memK p k a=memK p k a')->(∀p,InP p->memK p k b=memK p k b')->cano op k a b=cano op k a' b'
 |0,a,b,a',b',_,ha,hb=>by
  have h1:=ha _ inP_zero
  have h2:=hb _ inP_zero
  rw[memK_zero,memK_zero]at h1 h2
  rw[cano,cano,h1,h2]
 |k+1,a,b,a',b',hk,ha,hb=>by
  have g:=cano_ginv op k a b (starts_cuts _ (topF_pos (4-k)).1)
  have g':=cano_ginv op k a' b' (starts_cuts _ (topF_pos (4-k)).1)
  have part:∀(c c':List Bx),(∀p,InP p->memK p (k+1) c=memK p (k+1) c')->∀v,0<=v->v<topF (4-k)+1->∀p,InP p->memK p k (atF (4-k) v c)=memK p k (atF (4-k) v c'):=by
   intro c c' hc v v0 v1 p hp
   have hq:InP (fun f=>if f=4-k then v else p f):=fun f=>by
    by_cases e:f=4-k
    ·simp only[e,if_true];omega
    ·simp only[e,if_false];exact hp f
   have h:=hc _ hq
   rw[memK_succ,memK_succ,if_pos rfl]at h
   rw[memK_congr (q:=fun f=>if f=4-k then v else p f) (by omega) (fun f hf h5=>by rw[if_neg (by omega)]),h]
   exact memK_congr (by omega) fun f hf h5=>by rw[if_neg (by omega)]
  have hR:∀v,0<=v->v<topF (4-k)+1->restAt op k a b v=restAt op k a' b' v:=fun v v0 v1=>
   cano_ext op k _ _ _ _ (by omega) (part a a' ha v v0 v1) (part b b' hb v v0 v1)
  rw[cano_succ,cano_succ,(g.congr hR).same g']
theorem inK_iff{p:Nat->Int}{b:Bx}:inK p 5 b=true↔∀f,f<=4->(b.get f).lo<=p f/\p f<=(b.get f).hi:=by
 simp only[inK,Bool.and_eq_true,decide_eq_true_eq,and_true]
 constructor
 ·rintro h f hf
  obtain rfl|rfl|rfl|rfl|rfl:f=0\/f=1\/f=2\/f=3\/f=4:=by omega
  all_goals simp_all
 ·intro h
  have h0:=h 0 (by omega);have h1:=h 1 (by omega);have h2:=h 2 (by omega);have h3:=h 3 (by omega);have h4:=h 4 (by omega)
  simp_all
theorem memK_iff{p:Nat->Int}{l:List Bx}:memK p 5 l=true↔∃b,b∈l/\inK p 5 b=true:=by rw[memK,List.any_eq_true]
theorem inP_of{p:Nat->Int}(h:∀f,f<=4->0<=p f/\p f<=topF f):∃q,InP q/\∀f,f<=4->q f=p f:=by
 refine⟨fun f=>if f<=4 then p f else 0,fun f=>?_,fun f hf=>by simp only[hf,if_true]⟩
 by_cases hf:f<=4
 ·simp only[hf,if_true];exact h f hf
 ·simp only[hf,if_false];exact⟨Int.le_refl _,(topF_pos f).1⟩
theorem box_point{b:Bx}(h:∀f,f<=4->(b.get f).lo<=(b.get f).hi/\(b.get f).hi<=topF f):∃p,InP p/\inK p 5 b=true:=by
 obtain⟨q,hq,he⟩:=inP_of (p:=fun f=>(b.get f).lo) fun f hf=>⟨(b.get f).l0,by have:=h f hf;omega⟩
 refine⟨q,hq,?_⟩
 rw[inK_iff]
 intro f hf
 rw[he f hf]
 exact⟨Int.le_refl _,(h f hf).1⟩
theorem cano_nil_mem(op:Bool->Bool->Bool)(a b:List Bx):cano op 5 a b=[]↔∀p,InP p->op (memK p 5 a) (memK p 5 b)=false:=by
 constructor
 ·intro h p hp
  rw[<-cano_mem op hp 5 a b (Nat.le_refl _),h];rfl
 ·intro h
  cases hc:cano op 5 a b with
  |nil=>rfl
  |cons x l=>
   exfalso
   have hx:=okK_get (Nat.le_refl 5) (cano_ok op 5 a b (Nat.le_refl _) x (by rw[hc];simp))
   obtain⟨p,hp,hi⟩:=box_point (b:=x) fun f hf=>by have:=hx f hf;rw[if_pos (by omega)]at this;exact this
   have:=cano_mem op hp 5 a b (Nat.le_refl _)
   rw[h p hp,hc,memK,List.any_cons,hi]at this
   cases this
def woB(x y:Bool):Bool:=x&& !y
def anB(x y:Bool):Bool:=x&&y
def subS(a b:List Bx):Prop:=∀p,InP p->memK p 5 a=true->memK p 5 b=true
theorem cano_sub(a b:List Bx):cano woB 5 a b=[]↔subS a b:=by
 rw[cano_nil_mem]
 constructor
 ·intro h p hp ha
  have:=h p hp
  rw[woB,ha]at this
  simpa using this
 ·intro h p hp
  rw[woB]
  cases ha:memK p 5 a with
  |false=>rfl
  |true=>rw[h p hp ha];rfl
def meetX(x y:Bx):Prop:=∀f,f<=4->(x.get f).lo<=(y.get f).hi/\(y.get f).lo<=(x.get f).hi
theorem cano_disj{a b:List Bx}(ha:∀x,x∈a->∀f,f<=4->(x.get f).lo<=(x.get f).hi/\(x.get f).hi<=topF f)(hb:∀x,x∈b->∀f,f<=4->(x.get f).lo<=(x.get f).hi/\(x.get f).hi<=topF f):
  cano anB 5 a b=[]↔∀x,x∈a->∀y,y∈b->¬meetX x y:=by
 rw[cano_nil_mem]
 constructor
 ·intro h x hx y hy hm
  obtain⟨q,hq,he⟩:=inP_of (p:=fun f=>max (x.get f).lo (y.get f).lo) fun f hf=>by
   have:=ha x hx f hf;have:=hb y hy f hf;have:=hm f hf;have:=(x.get f).l0
   omega
  have h1:memK q 5 a=true:=memK_iff.2 ⟨x,hx,inK_iff.2 fun f hf=>by
   have:=ha x hx f hf;have:=hb y hy f hf;have:=hm f hf
   rw[he f hf];omega⟩
  have h2:memK q 5 b=true:=memK_iff.2 ⟨y,hy,inK_iff.2 fun f hf=>by
   have:=ha x hx f hf;have:=hb y hy f hf;have:=hm f hf
   rw[he f hf];omega⟩
  have:=h q hq
  rw[h1,h2]at this
  cases this
 ·intro h p hp
  cases h1:memK p 5 a with
  |false=>rfl
  |true=>
   cases h2:memK p 5 b with
   |false=>rfl
   |true=>
    obtain⟨x,hx,hix⟩:=memK_iff.1 h1
    obtain⟨y,hy,hiy⟩:=memK_iff.1 h2
    exact absurd (fun f hf=>by
     have:=inK_iff.1 hix f hf
     have:=inK_iff.1 hiy f hf
     omega) (h x hx y hy)
theorem opI_1:opI 1=anB:=by funext x y;rfl
theorem opI_2:opI 2=woB:=by funext x y;rfl
theorem cr4Int(a b:List Bx)(ha:a.length<1000000000)(hb:b.length<1000000000){K:KT}(hK:K (.tup [encXs (combP anB a b).1,.v (.int .i64 (combP anB a b).2)]) []):ACall Tryz.prog 39 [encXs a,encXs b] [] K:=by
 have hc:∀{K:KT},K (.tup [encXs (combP anB a b).1,.v (.int .i64 (combP anB a b).2)]) []->ACall Tryz.prog 86 [encXs a,encXs b,.v (.int .i64 1)] [] K:=fun h=>cr4Comb 1 a b ha hb (by rw[opI_1];exact h)
 refine ofr4Int rfl rfl ?_
 (repeat' ((conv=>whnf);first|(with_reducible refine hc ?_)|refine zG ?_|apply zA|(apply zI;intro h)|exact zT));(all_goals conv=>whnf)
 exact hK
theorem cr4Un(a b:List Bx)(ha:a.length<1000000000)(hb:b.length<1000000000){K:KT}(hK:K (.tup [encXs (combP orB a b).1,.v (.int .i64 (combP orB a b).2)]) []):ACall Tryz.prog 78 [encXs a,encXs b] [] K:=by
 have hc:∀{K:KT},K (.tup [encXs (combP orB a b).1,.v (.int .i64 (combP orB a b).2)]) []->ACall Tryz.prog 86 [encXs a,encXs b,.v (.int .i64 0)] [] K:=fun h=>cr4Comb 0 a b ha hb (by rw[opI_0];exact h)
 refine ofr4Un rfl rfl ?_
 (repeat' ((conv=>whnf);first|(with_reducible refine hc ?_)|refine zG ?_|apply zA|(apply zI;intro h)|exact zT));(all_goals conv=>whnf)
 exact hK
theorem cr4Sub(a b:List Bx)(ha:a.length<1000000000)(hb:b.length<1000000000){K:KT}(hK:K (.tup [encXs (combP woB a b).1,.v (.int .i64 (combP woB a b).2)]) []):ACall Tryz.prog 77 [encXs a,encXs b] [] K:=by
 have hc:∀{K:KT},K (.tup [encXs (combP woB a b).1,.v (.int .i64 (combP woB a b).2)]) []->ACall Tryz.prog 86 [encXs a,encXs b,.v (.int .i64 2)] [] K:=fun h=>cr4Comb 2 a b ha hb (by rw[opI_2];exact h)
 refine ofr4Sub rfl rfl ?_
 (repeat' ((conv=>whnf);first|(with_reducible refine hc ?_)|refine zG ?_|apply zA|(apply zI;intro h)|exact zT));(all_goals conv=>whnf)
 exact hK
theorem cr4Subs(a b:List Bx)(hab:a.length+b.length<50000)(hr:(cano woB 5 (vldB a) (vldB b)).length<=900000000000){K:KT}(hK:K (.sb (cano woB 5 (vldB a) (vldB b)).isEmpty) []):ACall Tryz.prog 93 [encXs a,encXs b] [] K:=by
 have hc:∀{K:KT},K (encXs (cano woB 5 (vldB a) (vldB b))) []->ACall Tryz.prog 133 [encXs (vldB a),encXs (vldB b),.v (.int .i64 2),.v (.int .i64 0)] [] K:=fun h=>cr4Rests 2 5 (Nat.le_refl _) _ _ (by have:=vldB_len a;have:=vldB_len b;omega) (by rw[opI_2];exact hr) (by rw[opI_2];exact h)
 refine ACall.bool (ofr4Subs rfl rfl ?_)
 (repeat' ((conv=>whnf);first|(with_reducible first|refine cr4Val a (by omega) ?_|refine cr4Val b (by omega) ?_|refine hc ?_)|refine zG ?_|apply zA|(apply zI;intro h)|exact zT));(all_goals conv=>whnf)
 refine fin_s hK ?_
 rw[List.length_map]
 cases cano woB 5 (vldB a) (vldB b)with
 |nil=>rfl
 |cons x l=>simp;omega
theorem cr4Same(a b:List Bx)(ha:a.length<1000000000000)(hb:b.length<1000000000000){K:KT}(hK:K (.sb (decide (a=b))) []):ACall Tryz.prog 25 [encXs a,encXs b] [] K:=by
 refine ofr4Same rfl rfl ?_
 (repeat' ((conv=>whnf);first|(with_reducible refine cr3Same a b ha hb ?_)|refine zG ?_|apply zA|(apply zI;intro h)|exact zT));(all_goals conv=>whnf)
 exact hK
def fb(p0 p1 s0 s1 d0 d1:Int):Bx:=⟨mkR 0 4294967295,mkR 0 4294967295,mkR p0 p1,mkR s0 s1,mkR d0 d1⟩
def initR:List Bx:=[fb 0 0 0 0 0 0,fb 2 5 0 0 0 0,fb 7 16 0 0 0 0,fb 18 255 0 0 0 0,fb 6 6 0 65535 0 65535,fb 17 17 0 65535 0 65535,fb 1 1 0 7 8 8,fb 1 1 9 65535 8 8]
def initS:List Bx:=[fb 0 0 0 0 0 0,fb 1 1 0 7 8 8,fb 1 1 9 65535 8 8,fb 2 5 0 0 0 0,fb 6 6 0 65535 0 65535,fb 7 16 0 0 0 0,fb 17 17 0 65535 0 65535,fb 18 255 0 0 0 0]
theorem init_canon:cano orB 5 (vldB initR) []=initS:=by decide+kernel
theorem cr4Init{K:KT}(hK:K (encXs initS) []):ACall Tryz.prog 85 [] [] K:=by
 have hc:∀{K:KT},K (encXs initS) []->ACall Tryz.prog 134 [encXs initR] [] K:=fun h=>cr4Canon initR (by decide) (by rw[init_canon];decide) (by rw[init_canon];exact h)
 refine ofr4Init rfl rfl ?_
 (repeat' ((conv=>whnf);first|(with_reducible refine Lp.times 6 ?_)|(refine in_c (by decide) ?_)|(refine Ix.intro rfl ?_)|(with_reducible refine cr3Full ?_)|(refine hc ?_)|refine zG ?_|apply zA|(apply zI;intro h)|exact zT));(all_goals conv=>whnf)
 exact hK
def okL(l:List Bx):Prop:=∀x,x∈l->∀f,f<=4->(x.get f).lo<=(x.get f).hi/\(x.get f).hi<=topF f
theorem okL_at{f:Nat}{v:Int}{l:List Bx}(h:okL l):okL (atF f v l):=fun x hx=>h x (List.mem_filter.1 hx).1
theorem okL_nil:okL []:=fun x hx=>by simp at hx
theorem okL_cano(op:Bool->Bool->Bool)(a b:List Bx):okL (cano op 5 a b):=fun x hx f hf=>by
 have:=okK_get (Nat.le_refl 5) (cano_ok op 5 a b (Nat.le_refl _) x hx) f hf
 rw[if_pos (by omega)]at this
 exact this
theorem okL_vld(l:List Bx):okL (vldB l):=fun x hx=>ok_get (by simpa using(List.mem_filter.1 hx).2)
theorem okL_set{l:List Bx}(h:setB l=true):okL l:=by
 rw[<-setB_same h];exact okL_cano orB l []
theorem okL_makeGo:∀(l s:List Bx),okL s->okL (makeGo s l).1
 |[],s,h=>h
 |b::l,s,h=>by
  rw[makeGo]
  split
  ·split
   ·exact okL_nil
   ·exact okL_makeGo l _ (okL_cano _ _ _)
  ·exact okL_makeGo l s h
theorem okL_giv(l:List Bx):okL (givP l).1:=by
 unfold givP
 split
 ·exact okL_set (by assumption)
 ·exact okL_makeGo l [] okL_nil
noncomputable def guComp:Ctx:={N:=14,plan:=at1 1 (some (ln [1,2,5,7,13,15,17,8,11,19,21,23])) (fun _=>none)}
noncomputable def buComp:Code:=bdy Tryz.f61
abbrev ofuComp:=@ofC Tryz.prog guComp 61 Tryz.f61 buComp Tryz.func61 (by kernel_rfl) (by kernel_rfl) (by kernel_rfl) (by kernel_rfl)
noncomputable def gnCopy:Ctx:={N:=24,res:=true}
noncomputable def bnCopy:Code:=bdy Tryz.f26
abbrev ofnCopy:=@ofC Tryz.prog gnCopy 26 Tryz.f26 bnCopy Tryz.func26 (by kernel_rfl) (by kernel_rfl) (by kernel_rfl) (by kernel_rfl)
noncomputable def gnAddr:Ctx:={N:=40,np:=1,own:=at1 13 (true) (fun _=>false),plan:=at1 5 (some (.one 0 true (.one 2 true (.one 4 true (.one 7 true (.one 10 true (.one 14 true (.wch 1 (.wch 3 (.wch 5 (.one 6 true (.wch 8 (.one 9 true (.wch 11 (.one 12 true (.alt 13 (.one 15 false (.one 16 true (.one 17 true (.one 18 true (.done))))) (.alt 15 (.one 13 false (.one 16 true (.one 17 true (.one 18 true (.done))))) (.stop)))))))))))))))))) (fun _=>none)}
noncomputable def bnAddr:Code:=bdy Tryz.f68
abbrev ofnAddr:=@ofC Tryz.prog gnAddr 68 Tryz.f68 bnAddr Tryz.func68 (by kernel_rfl) (by kernel_rfl) (by kernel_rfl) (by kernel_rfl)
noncomputable def gtComp:Ctx:={N:=11}
noncomputable def btComp:Code:=bdy Tryz.f57
abbrev oftComp:=@ofC Tryz.prog gtComp 57 Tryz.f57 btComp Tryz.func57 (by kernel_rfl) (by kernel_rfl) (by kernel_rfl) (by kernel_rfl)
noncomputable def gtCom1:Ctx:={N:=5}
noncomputable def btCom1:Code:=bdy Tryz.f107
abbrev oftCom1:=@ofC Tryz.prog gtCom1 107 Tryz.f107 btCom1 Tryz.func107 (by kernel_rfl) (by kernel_rfl) (by kernel_rfl) (by kernel_rfl)
noncomputable def ganyEdge:Ctx:={N:=9}
noncomputable def banyEdge:Code:=bdy Tryz.f106
abbrev ofanyEdge:=@ofC Tryz.prog ganyEdge 106 Tryz.f106 banyEdge Tryz.func106 (by kernel_rfl) (by kernel_rfl) (by kernel_rfl) (by kernel_rfl)
def sEq(a b:ByteArray):Bool:=a.toList==b.toList
def devIx(l:List Dv)(n:ByteArray):Int:=firstIx (fun d=>sEq d.name n) l
def edgeIx(l:List Ed)(n:ByteArray):Int:=firstIx (fun d=>sEq d.name n) l
theorem ctDev1(d:Dv)(n:ByteArray){K:KT}(hK:K (.sb (sEq d.name n)) []):ACall Tryz.prog 189 [encD d,.fp [.v (.string n)]] [] K:=by
 refine oftDev1 rfl rfl ?_
 iterate 9 (all_goals((conv=>whnf);first|refine zG ?_|apply zA|(apply zI;intro h)|exact zT|skip))
 exact hK
theorem ctDev(t:Tp)(n:ByteArray)(hl:t.devs.length<1000000){K:KT}(hK:K (.v (.int .i64 (devIx t.devs n))) []):ACall Tryz.prog 147 [encT t,.v (.string n)] [] K:=by
 refine oftDev rfl rfl ?_
 iterate 9 (all_goals((conv=>whnf);first|(with_reducible refine cixDev _ _ _ (fun d=>sEq d.name n) (fun x K h=>ctDev1 x n h) hl ?_)|refine zG ?_|apply zA|(apply zI;intro h)|exact zT|skip))
 exact hK
theorem cuDev(t:Tp)(n:ByteArray)(hl:t.devs.length<1000000){K:KT}(hK:K (.v (.int .i64 (devIx t.devs n))) []):ACall Tryz.prog 198 [encT t,.v (.string n)] [] K:=by
 refine ofuDev rfl rfl ?_
 iterate 4 (all_goals((conv=>whnf);first|refine zG ?_|apply zA|(apply zI;intro h)|exact zT|skip))
 refine Lp.intro Nat (fun k=>⟨1,[(0,.box [.lst (t.devs.map encD),.lst (t.links.map encL),.lst (t.edges.map encE),.lst (t.pools.map encP),.v (.int .i64 t.tol)])],[(1,.v (.string n)),(2,.op 0 0),(5,.v (.int .i64 k))]⟩) (fun k=>k<=t.devs.length/\∀(i:Nat) y,i<k->t.devs[i]? =some y->sEq y.name n=false) (fun k=>t.devs.length-k) 0 ?_ ?_ ?_
 ·exact⟨Nat.zero_le _,fun i y hi=>absurd hi (Nat.not_lt_zero _)⟩
 ·exact⟨[(0,0)],rfl,⟨rfl,rfl,rfl,trivial⟩,rfl,trivial⟩
 ·intro k ⟨hk,hinv⟩
  rcases Nat.lt_or_ge k t.devs.length with hkl|hkl
  ·obtain⟨r,hr⟩:=gex hkl
   iterate 14 (all_goals((conv=>whnf);first|(with_reducible first|refine in_map hkl ?_|refine ix_map hr ?_)|refine zG ?_|apply zA|(apply zI;intro h)|exact zT|skip))
   ·rw[devIx,firstIx_at hr h hinv]at hK;exact hK
   ·exact⟨k+1,⟨by omega,before_succ hr h hinv⟩,by omega,⟨[(0,0)],rfl,⟨rfl,rfl,rfl,trivial⟩,rfl,trivial⟩⟩
  ·iterate 8 (all_goals((conv=>whnf);first|refine zG ?_|apply zA|(apply zI;intro h)|exact zT|skip))
   rw[devIx,firstIx_none (before_all hkl hinv)]at hK
   exact hK
theorem ctEdge1(d:Ed)(n:ByteArray){K:KT}(hK:K (.sb (sEq d.name n)) []):ACall Tryz.prog 190 [encE d,.fp [.v (.string n)]] [] K:=by
 refine oftEdge1 rfl rfl ?_
 iterate 9 (all_goals((conv=>whnf);first|refine zG ?_|apply zA|(apply zI;intro h)|exact zT|skip))
 exact hK
theorem ctEdge(t:Tp)(n:ByteArray)(hl:t.edges.length<1000000){K:KT}(hK:K (.v (.int .i64 (edgeIx t.edges n))) []):ACall Tryz.prog 149 [encT t,.v (.string n)] [] K:=by
 refine oftEdge rfl rfl ?_
 iterate 9 (all_goals((conv=>whnf);first|(with_reducible refine cixEdge _ _ _ (fun d=>sEq d.name n) (fun x K h=>ctEdge1 x n h) hl ?_)|refine zG ?_|apply zA|(apply zI;intro h)|exact zT|skip))
 exact hK
theorem cuEdge(t:Tp)(n:ByteArray)(hl:t.edges.length<1000000){K:KT}(hK:K (.v (.int .i64 (edgeIx t.edges n))) []):ACall Tryz.prog 125 [encT t,.v (.string n)] [] K:=by
 refine ofuEdge rfl rfl ?_
 iterate 4 (all_goals((conv=>whnf);first|refine zG ?_|apply zA|(apply zI;intro h)|exact zT|skip))
 refine Lp.intro Nat (fun k=>⟨1,[(0,.box [.lst (t.devs.map encD),.lst (t.links.map encL),.lst (t.edges.map encE),.lst (t.pools.map encP),.v (.int .i64 t.tol)])],[(1,.v (.string n)),(2,.op 0 0),(5,.v (.int .i64 k))]⟩) (fun k=>k<=t.edges.length/\∀(i:Nat) y,i<k->t.edges[i]? =some y->sEq y.name n=false) (fun k=>t.edges.length-k) 0 ?_ ?_ ?_
 ·exact⟨Nat.zero_le _,fun i y hi=>absurd hi (Nat.not_lt_zero _)⟩
 ·exact⟨[(0,0)],rfl,⟨rfl,rfl,rfl,trivial⟩,rfl,trivial⟩
 ·intro k ⟨hk,hinv⟩
  rcases Nat.lt_or_ge k t.edges.length with hkl|hkl
  ·obtain⟨r,hr⟩:=gex hkl
   iterate 14 (all_goals((conv=>whnf);first|(with_reducible first|refine in_map hkl ?_|refine ix_map hr ?_)|refine zG ?_|apply zA|(apply zI;intro h)|exact zT|skip))
   ·rw[edgeIx,firstIx_at hr h hinv]at hK;exact hK
   ·exact⟨k+1,⟨by omega,before_succ hr h hinv⟩,by omega,⟨[(0,0)],rfl,⟨rfl,rfl,rfl,trivial⟩,rfl,trivial⟩⟩
  ·iterate 8 (all_goals((conv=>whnf);first|refine zG ?_|apply zA|(apply zI;intro h)|exact zT|skip))
   rw[edgeIx,firstIx_none (before_all hkl hinv)]at hK
   exact hK
def devOk(d:Dv):Prop:=nameOk d.name/\0<=d.cap/\d.cap<=4096/\(sEq d.cls ⟨#[]⟩=true\/nameOk d.cls)
open Classical in
noncomputable def devB(d:Dv):Bool:=decide (devOk d)
theorem devB_true{d:Dv}(h:devOk d):devB d=true:=by simp[devB,h]
theorem devB_false{d:Dv}(h:¬devOk d):devB d=false:=by simp[devB,h]
theorem devB_iff{d:Dv}:devB d=true↔devOk d:=by simp[devB]
theorem nameB_not{s:ByteArray}(h:nameB s=false):¬nameOk s:=fun hn=>by rw[nameB_true hn]at h;cases h
theorem ctDevOk(d:Dv){K:KT}(hK:K (.sb (devB d)) []):ACall Tryz.prog 146 [encD d] [] K:=by
 refine ACall.bool (oftDevOk rfl rfl ?_)
 iterate 30 (all_goals((conv=>whnf);first|(with_reducible refine csName _ ?_)|refine zG ?_|apply zA|(apply zI;intro h)|exact zT|skip))
 all_goals first
  |(refine fin_t hK (devB_true ⟨nameB_iff.1 (by assumption),by omega,by omega,?_⟩);exact .inl (by assumption))
  |(refine fin_s hK ?_
    rw[Bool.eq_iff_iff,devB_iff,nameB_iff]
    refine⟨fun hh=>hh.2.2.2.resolve_left (by rw[sEq,h];simp),fun hh=>⟨nameB_iff.1 (by assumption),by omega,by omega,.inr hh⟩⟩)
  |(refine fin_f hK (devB_false fun hn=>?_)
    obtain⟨n1,n2,n3,n4⟩:=hn
    first|omega|exact nameB_not (by assumption) n1)
def edgeOk(n:Int)(e:Ed):Prop:=nameOk e.name/\nameOk e.zone/\0<=e.dev/\e.dev<n/\1<=e.pf.bits/\e.pf.okP/\(e.pl=false\/e.pf.addr=0)
open Classical in
noncomputable def edgeB(n:Int)(e:Ed):Bool:=decide (edgeOk n e)
theorem edgeB_true{n:Int}{e:Ed}(h:edgeOk n e):edgeB n e=true:=by simp[edgeB,h]
theorem edgeB_false{n:Int}{e:Ed}(h:¬edgeOk n e):edgeB n e=false:=by simp[edgeB,h]
theorem pl_of{e:Ed}(h:e.pl=true):¬e.pl=false:=by simp[h]
theorem edgeB_iff{n:Int}{e:Ed}:edgeB n e=true↔edgeOk n e:=by simp[edgeB]
theorem ctEdgeOk(t:Tp)(e:Ed){K:KT}(hK:K (.sb (edgeB t.devs.length e)) []):ACall Tryz.prog 148 [encT t,encE e] [] K:=by
 refine ACall.bool (oftEdgeOk rfl rfl ?_)
 iterate 50 (all_goals((conv=>whnf);first|(with_reducible first|refine csName _ ?_|refine cpVal e.pf ?_)|refine zG ?_|apply zA|(apply zI;intro h)|exact zT|skip))
 all_goals(try simp only[List.length_map]at*)
 all_goals first
  |(refine fin_t hK (edgeB_true ⟨nameB_iff.1 (by assumption),nameB_iff.1 (by assumption),by omega,by omega,by omega,by assumption,.inl (by assumption)⟩))
  |(refine fin_s hK ?_
    rw[Bool.eq_iff_iff,edgeB_iff,decide_eq_true_eq]
    refine⟨fun hh=>hh.2.2.2.2.2.2.resolve_left (pl_of (by assumption)),fun hh=>⟨nameB_iff.1 (by assumption),nameB_iff.1 (by assumption),by omega,by omega,by omega,by assumption,.inr hh⟩⟩)
  |(refine fin_f hK (edgeB_false fun hn=>?_)
    obtain⟨n1,n2,n3,n4,n5,n6,n7⟩:=hn
    first|omega|(exact absurd n6 (by assumption))|exact nameB_not (by assumption) n1|exact nameB_not (by assumption) n2)
theorem cuEdgeOk(e:Ed)(n:Int){K:KT}(hK:K (.sb (edgeB n e)) []):ACall Tryz.prog 162 [encE e,.v (.int .i64 n)] [] K:=by
 refine ACall.bool (ofuEdgeOk rfl rfl ?_)
 iterate 50 (all_goals((conv=>whnf);first|(with_reducible first|refine crName _ ?_|refine crVal e.pf ?_)|refine zG ?_|apply zA|(apply zI;intro h)|exact zT|skip))
 all_goals(try simp only[List.length_map]at*)
 all_goals first
  |(refine fin_t hK (edgeB_true ⟨nameB_iff.1 (by assumption),nameB_iff.1 (by assumption),by omega,by omega,by omega,by assumption,.inl (by assumption)⟩))
  |(refine fin_s hK ?_
    rw[Bool.eq_iff_iff,edgeB_iff,decide_eq_true_eq]
    refine⟨fun hh=>hh.2.2.2.2.2.2.resolve_left (pl_of (by assumption)),fun hh=>⟨nameB_iff.1 (by assumption),nameB_iff.1 (by assumption),by omega,by omega,by omega,by assumption,.inr hh⟩⟩)
  |(refine fin_f hK (edgeB_false fun hn=>?_)
    obtain⟨n1,n2,n3,n4,n5,n6,n7⟩:=hn
    first|omega|(exact absurd n6 (by assumption))|exact nameB_not (by assumption) n1|exact nameB_not (by assumption) n2)
def linkOk(n:Int)(l:Lk):Prop:=0<=l.a/\l.a<l.b/\l.b<n/\1<=l.cost/\l.cost<=1000
def apartE(e o:Ed):Prop:=¬(e.pl=false/\o.pl=false/\e.pf.meet o.pf=true)
theorem take_get{α:Type}{l:List α}{k j:Nat}{o:α}:(l.take k)[j]? =some o↔(j<k/\l[j]? =some o):=by
 rw[List.getElem?_take]
 split
 ·rename_i h;exact⟨fun h1=>⟨h,h1⟩,fun h1=>h1.2⟩
 ·rename_i h
  refine⟨fun h1=>?_,fun h1=>absurd h1.1 h⟩
  cases h1
structure TopOk (t:Tp):Prop where
 d0:1<=t.devs.length
 d1:t.devs.length<=12
 l1:t.links.length<=24
 e1:t.edges.length<=12
 p1:t.pools.length<=8
 t0:0<=t.tol
 t1:t.tol<=2
 dev:∀(i:Nat) d,t.devs[i]? =some d->devOk d/\devIx t.devs d.name=i
 link:∀(i:Nat) l,t.links[i]? =some l->linkOk t.devs.length l
 edge:∀(i:Nat) e,t.edges[i]? =some e->edgeOk t.devs.length e/\edgeIx t.edges e.name=i
 apart:∀(i:Nat) e,t.edges[i]? =some e->∀(j:Nat) o,j<i->t.edges[j]? =some o->apartE e o
 pool:∀(i:Nat) p,t.pools[i]? =some p->p.okP/\∀(j:Nat) q,j<i->t.pools[j]? =some q->p.meet q=false
open Classical in
noncomputable def topB(t:Tp):Bool:=decide (TopOk t)
theorem topB_true{t:Tp}(h:TopOk t):topB t=true:=by simp[topB,h]
theorem topB_false{t:Tp}(h:¬TopOk t):topB t=false:=by simp[topB,h]
theorem topB_iff{t:Tp}:topB t=true↔TopOk t:=by simp[topB]
theorem ctVal1(p q:Pf){K:KT}(hK:K (.sb (p.meet q)) []):ACall Tryz.prog 152 [encP q,.fp [.v (.int .u32 p.addr),.v (.int .i64 p.bits)]] [] K:=by
 refine oftVal1 rfl rfl ?_
 iterate 9 (all_goals((conv=>whnf);first|(with_reducible refine ctOvl p q ?_)|refine zG ?_|apply zA|(apply zI;intro h)|exact zT|skip))
 exact hK
theorem canyPf(l:List Pf)(p:Pf)(hl:l.length<1000000){K:KT}(hK:K (.sb (l.any fun q=>p.meet q)) []):
  ACall Tryz.prog 151 [.lst (l.map encP),.fn (.func 152) [] [.fp [.v (.int .u32 p.addr),.v (.int .i64 p.bits)]]] [] K:=by
 refine ACall.bool (ofanyPf rfl rfl ?_)
 iterate 9 (all_goals((conv=>whnf);first|(with_reducible refine cixPf _ _ _ (fun q=>p.meet q) (fun x K h=>ctVal1 p x h) hl ?_)|refine zG ?_|apply zA|(apply zI;intro h)|exact zT|skip))
 refine fin_s hK ?_
 rw[Bool.eq_iff_iff,List.any_eq_true,decide_eq_true_eq]
 constructor
 ·rintro⟨x,hx,hp⟩
  unfold firstIx
  split
  ·omega
  ·rename_i hn
   rw[List.findIdx?_eq_none_iff]at hn
   have:=hn x hx
   simp_all
 ·intro h
  unfold firstIx at h
  split at h
  ·rename_i i hi
   rw[List.findIdx?_eq_some_iff_getElem]at hi
   obtain⟨h1,h2,_⟩:=hi
   exact⟨_,List.getElem_mem h1,h2⟩
  ·omega
noncomputable abbrev boxT(t:Tp):Vm.Obj:=.box [.lst (t.devs.map encD),.lst (t.links.map encL),.lst (t.edges.map encE),.lst (t.pools.map encP),.v (.int .i64 t.tol)]
theorem ctVal(t:Tp){K:KT}(hK:K (.sb (topB t)) []):ACall Tryz.prog 105 [encT t] [] K:=by
 refine ACall.bool (oftVal rfl rfl ?_)
 iterate 50 (all_goals((conv=>whnf);first|refine zG ?_|apply zA|(apply zI;intro h)|exact zT|skip))
 all_goals first
  |(exact fin_f hK (topB_false fun hn=>by
    have:=hn.d0;have:=hn.d1;have:=hn.l1;have:=hn.e1;have:=hn.p1;have:=hn.t0;have:=hn.t1
    simp only[List.length_map]at*
    omega))
  |skip
 obtain⟨d0,d1,l1,e1,p1,t0,t1⟩:1<=t.devs.length/\t.devs.length<=12/\t.links.length<=24/\t.edges.length<=12/\t.pools.length<=8/\0<=t.tol/\t.tol<=2:=by
  simp only[List.length_map]at*
  omega
 refine Lp.intro Nat (fun k=>⟨1,[(0,boxT t)],[(1,.op 0 0),(52,.lst (t.devs.map encD)),(53,.v (.int .i64 (t.devs.map encD).length)),(54,.v (.int .i64 k))]⟩)
  (fun k=>k<=t.devs.length/\∀(i:Nat) d,i<k->t.devs[i]? =some d->devOk d/\devIx t.devs d.name=i) (fun k=>t.devs.length-k) 0 ?_ ?_ ?_
 ·exact⟨Nat.zero_le _,fun i y hi=>absurd hi (Nat.not_lt_zero _)⟩
 ·exact⟨[(0,0)],rfl,⟨rfl,rfl,rfl,rfl,trivial⟩,rfl,trivial⟩
 intro k ⟨hk,hinv⟩
 rcases Nat.lt_or_ge k t.devs.length with hkl|hkl
 ·obtain⟨r,hr⟩:=gex hkl
  iterate 40 (all_goals((conv=>whnf);first|(with_reducible first|refine in_map hkl ?_|refine ix_map hr ?_|refine ctDevOk r ?_|refine ctDev t _ (by omega) ?_)|refine zG ?_|apply zA|(apply zI;intro h)|exact zT|skip))
  ·exact⟨k+1,⟨by omega,all_succ hr ⟨devB_iff.1 (by assumption),h⟩ hinv⟩,by omega,⟨[(0,0)],rfl,⟨rfl,rfl,rfl,rfl,trivial⟩,rfl,trivial⟩⟩
  ·exact fin_f hK (topB_false fun hn=>h (hn.dev k r hr).2)
  ·exact fin_f hK (topB_false fun hn=>by rw[devB_true (hn.dev k r hr).1]at h;cases h)
 have hdev:=before_all hkl hinv
 iterate 20 (all_goals((conv=>whnf);first|refine zG ?_|apply zA|(apply zI;intro h)|exact zT|skip))
 refine Lp.intro Nat (fun k=>⟨1,[(0,boxT t)],[(1,.op 0 0),(72,.lst (t.links.map encL)),(73,.v (.int .i64 (t.links.map encL).length)),(74,.v (.int .i64 k))]⟩)
  (fun k=>k<=t.links.length/\∀(i:Nat) d,i<k->t.links[i]? =some d->linkOk t.devs.length d) (fun k=>t.links.length-k) 0 ?_ ?_ ?_
 ·exact⟨Nat.zero_le _,fun i y hi=>absurd hi (Nat.not_lt_zero _)⟩
 ·exact⟨[(0,0)],rfl,⟨rfl,rfl,rfl,rfl,trivial⟩,rfl,trivial⟩
 intro k ⟨hk,hinv⟩
 rcases Nat.lt_or_ge k t.links.length with hkl|hkl
 ·obtain⟨r,hr⟩:=gex hkl
  iterate 50 (all_goals((conv=>whnf);first|(with_reducible first|refine in_map hkl ?_|refine ix_map hr ?_)|refine zG ?_|apply zA|(apply zI;intro h)|exact zT|skip))
  all_goals first
   |(refine fin_f hK (topB_false fun hn=>?_)
     obtain⟨n1,n2,n3,n4,n5⟩:=hn.link k r hr
     simp only[List.length_map]at*
     omega)
   |(refine⟨k+1,⟨by omega,all_succ hr ?_ hinv⟩,by omega,⟨[(0,0)],rfl,⟨rfl,rfl,rfl,rfl,trivial⟩,rfl,trivial⟩⟩
     unfold linkOk
     simp only[List.length_map]at*
     omega)
 have hlink:=before_all hkl hinv
 iterate 20 (all_goals((conv=>whnf);first|refine zG ?_|apply zA|(apply zI;intro h)|exact zT|skip))
 refine Lp.intro Nat (fun k=>⟨1,[(0,boxT t)],[(1,.op 0 0),(108,.lst (t.edges.map encE)),(109,.v (.int .i64 (t.edges.map encE).length)),(110,.v (.int .i64 k))]⟩)
  (fun k=>k<=t.edges.length/\∀(i:Nat) e,i<k->t.edges[i]? =some e->(edgeOk t.devs.length e/\edgeIx t.edges e.name=i)/\∀(j:Nat) o,j<i->t.edges[j]? =some o->apartE e o) (fun k=>t.edges.length-k) 0 ?_ ?_ ?_
 ·exact⟨Nat.zero_le _,fun i y hi=>absurd hi (Nat.not_lt_zero _)⟩
 ·exact⟨[(0,0)],rfl,⟨rfl,rfl,rfl,rfl,trivial⟩,rfl,trivial⟩
 intro k ⟨hk,hinv⟩
 rcases Nat.lt_or_ge k t.edges.length with hkl|hkl
 ·obtain⟨r,hr⟩:=gex hkl
  iterate 40 (all_goals((conv=>whnf);first|(with_reducible first|refine in_map hkl ?_|refine ix_map hr ?_|refine ctEdgeOk t r ?_|refine ctEdge t _ (by omega) ?_)|refine zG ?_|apply zA|(apply zI;intro h)|exact zT|skip))
  ·refine sb_take (by omega) ?_
   have hlen:(t.edges.take k).length=k:=by simp;omega
   have hget:∀(j:Nat) o,(t.edges.take k)[j]? =some o↔j<k/\t.edges[j]? =some o:=fun j o=>take_get
   iterate 9 (all_goals((conv=>whnf);first|refine zG ?_|apply zA|(apply zI;intro h)|exact zT|skip))
   refine Lp.intro Nat (fun j=>⟨2,[(1,.box [.v (.string r.name),.v (.int .i64 r.dev),.v (.string r.zone),.v (.int .u32 r.pf.addr),.v (.int .i64 r.pf.bits),.sb r.pl]),(0,boxT t)],
    [(1,.op 0 0),(8,.op 1 0),(108,.lst (t.edges.map encE)),(109,.v (.int .i64 (t.edges.map encE).length)),(110,.v (.int .i64 k)),(130,.lst ((t.edges.take k).map encE)),(131,.v (.int .i64 ((t.edges.take k).map encE).length)),(132,.v (.int .i64 j))]⟩)
    (fun j=>j<=(t.edges.take k).length/\∀(i:Nat) o,i<j->(t.edges.take k)[i]? =some o->apartE r o) (fun j=>(t.edges.take k).length-j) 0 ?_ ?_ ?_
   ·exact⟨Nat.zero_le _,fun i y hi=>absurd hi (Nat.not_lt_zero _)⟩
   ·exact⟨[(0,0),(1,1)],rfl,⟨rfl,rfl,rfl,rfl,rfl,rfl,rfl,rfl,trivial⟩,rfl,rfl,trivial⟩
   intro j ⟨hj,hinvj⟩
   rcases Nat.lt_or_ge j (t.edges.take k).length with hjl|hjl
   ·obtain⟨o,ho⟩:∃o,(t.edges.take k)[j]? =some o:=⟨_,List.getElem?_eq_getElem hjl⟩
    have ho2:=(hget j o).1 ho
    iterate 40 (all_goals((conv=>whnf);first|(with_reducible first|refine in_map hjl ?_|refine ix_map ho ?_|refine ctOvl r.pf o.pf ?_)|refine zG ?_|apply zA|(apply zI;intro h)|exact zT|skip))
    all_goals first
     |(refine fin_f hK (topB_false fun hn=>?_)
       exact hn.apart k r hr j o ho2.1 ho2.2 ⟨by assumption,by assumption,by assumption⟩)
     |(refine⟨j+1,⟨by omega,all_succ ho ?_ hinvj⟩,by omega,⟨[(0,0),(1,1)],rfl,⟨rfl,rfl,rfl,rfl,rfl,rfl,rfl,rfl,trivial⟩,rfl,rfl,trivial⟩⟩
       rintro⟨q1,q2,q3⟩
       simp_all)
   have hap:=before_all hjl hinvj
   iterate 20 (all_goals((conv=>whnf);first|refine zG ?_|apply zA|(apply zI;intro h)|exact zT|skip))
   exact⟨k+1,⟨by omega,all_succ hr ⟨⟨edgeB_iff.1 (by assumption),by assumption⟩,fun j o h1 h2=>hap j o ((hget j o).2 ⟨h1,h2⟩)⟩ hinv⟩,by omega,⟨[(0,0)],rfl,⟨rfl,rfl,rfl,rfl,trivial⟩,rfl,trivial⟩⟩
  ·exact fin_f hK (topB_false fun hn=>h (hn.edge k r hr).2)
  ·exact fin_f hK (topB_false fun hn=>by rw[edgeB_true (hn.edge k r hr).1]at h;cases h)
 have hedge:=before_all hkl hinv
 iterate 20 (all_goals((conv=>whnf);first|refine zG ?_|apply zA|(apply zI;intro h)|exact zT|skip))
 refine Lp.intro Nat (fun k=>⟨1,[(0,boxT t)],[(1,.op 0 0),(154,.lst (t.pools.map encP)),(155,.v (.int .i64 (t.pools.map encP).length)),(156,.v (.int .i64 k))]⟩)
  (fun k=>k<=t.pools.length/\∀(i:Nat) p,i<k->t.pools[i]? =some p->p.okP/\∀(j:Nat) q,j<i->t.pools[j]? =some q->p.meet q=false) (fun k=>t.pools.length-k) 0 ?_ ?_ ?_
 ·exact⟨Nat.zero_le _,fun i y hi=>absurd hi (Nat.not_lt_zero _)⟩
 ·exact⟨[(0,0)],rfl,⟨rfl,rfl,rfl,rfl,trivial⟩,rfl,trivial⟩
 intro k ⟨hk,hinv⟩
 rcases Nat.lt_or_ge k t.pools.length with hkl|hkl
 ·obtain⟨r,hr⟩:=gex hkl
  have hlen:(t.pools.take k).length=k:=by simp;omega
  have hget:∀(j:Nat) o,(t.pools.take k)[j]? =some o↔j<k/\t.pools[j]? =some o:=fun j o=>take_get
  iterate 40 (all_goals((conv=>whnf);first|(with_reducible first|refine in_map hkl ?_|refine ix_map hr ?_|refine cpVal r ?_|refine sb_take (by omega) ?_|refine canyPf _ r (by omega) ?_)|refine zG ?_|apply zA|(apply zI;intro h)|exact zT|skip))
  ·refine fin_f hK (topB_false fun hn=>?_)
   obtain⟨q,hq1,hq2⟩:=List.any_eq_true.1 h
   obtain⟨j,hj⟩:=List.mem_iff_getElem?.1 hq1
   have hj2:=(hget j q).1 hj
   rw[(hn.pool k r hr).2 j q hj2.1 hj2.2]at hq2;cases hq2
  ·refine⟨k+1,⟨by omega,all_succ hr ⟨by assumption,fun j q h1 h2=>?_⟩ hinv⟩,by omega,⟨[(0,0)],rfl,⟨rfl,rfl,rfl,rfl,trivial⟩,rfl,trivial⟩⟩
   rw[List.any_eq_false]at h
   have:=h q (List.mem_of_getElem? ((hget j q).2 ⟨h1,h2⟩))
   simpa using this
  ·exact fin_f hK (topB_false fun hn=>h (hn.pool k r hr).1)
 have hpool:=before_all hkl hinv
 iterate 20 (all_goals((conv=>whnf);first|refine zG ?_|apply zA|(apply zI;intro h)|exact zT|skip))
 exact fin_t hK (topB_true ⟨d0,d1,l1,e1,p1,t0,t1,hdev,hlink,fun i e he=>(hedge i e he).1,fun i e he=>(hedge i e he).2,hpool⟩)
end Go.Proofs.YtokmdghjgegclaaGreatDoor
