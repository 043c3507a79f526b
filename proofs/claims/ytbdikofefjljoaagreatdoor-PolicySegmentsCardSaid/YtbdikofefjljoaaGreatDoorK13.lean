/- The reference's packet sets: rests: the canonical form of what an operation makes of two lists. -/
import Derived.Test.YtbdikofefjljoaaGreatDoorK12
set_option linter.unusedVariables false
set_option linter.unusedSimpArgs false
set_option maxRecDepth 100000
set_option maxHeartbeats 4000000
namespace Go.Proofs.YtbdikofefjljoaaGreatDoor
open Go Go.Vm
theorem put0(b:Bx)(r:Rg):b.put 0 r=⟨r,b.r1,b.r2,b.r3,b.r4⟩:=rfl
theorem put1(b:Bx)(r:Rg):b.put 1 r=⟨b.r0,r,b.r2,b.r3,b.r4⟩:=rfl
theorem put2(b:Bx)(r:Rg):b.put 2 r=⟨b.r0,b.r1,r,b.r3,b.r4⟩:=rfl
theorem put3(b:Bx)(r:Rg):b.put 3 r=⟨b.r0,b.r1,b.r2,r,b.r4⟩:=rfl
theorem put4(b:Bx)(r:Rg):b.put 4 r=⟨b.r0,b.r1,b.r2,b.r3,r⟩:=rfl
theorem dec_pos{α:Type}{f:α->AV}(l:List α):decide ((0:Int)<((l.map f).length:Int))= !l.isEmpty:=by
 cases l with
 |nil=>rfl
 |cons x l=>simp
def vldB(l:List Bx):List Bx:=l.filter fun b=>decide b.ok
theorem vldB_len(l:List Bx):(vldB l).length<=l.length:=List.length_filter_le ..
theorem vldB_succ{l:List Bx}{k:Nat}{x:Bx}(h:l[k]? =some x):vldB (l.take (k+1))=vldB (l.take k)++(if x.ok then [x]else []):=by
 rw[List.take_add_one,h,vldB,List.filter_append]
 congr 1
 by_cases hc:x.ok<;>simp[hc]
def limP(l:List Bx):List Bx:=if 4096<l.length then []else l
def limE(l:List Bx):Int:=if 4096<l.length then 3 else 0
theorem Parts.next{f:Nat}:∀{ps:List (List Bx)},Parts f ps->∀{r:Nat} {p q:List Bx},ps[r]? =some p->ps[r+1]? =some q->rgOf f p≠rgOf f q
 |[],_,r,p,q,h,_=>by simp at h
 |p0::ps,hP,0,p,q,h,h2=>by
  simp at h;subst h
  cases hP with
  |one=>simp at h2
  |cons _ q' ps' _ _ h3 _=>simp at h2;subst h2;exact h3
 |p0::ps,hP,r+1,p,q,h,h2=>Parts.next hP.tail (by simpa using h) (by simpa using h2)
def lastRun(ps:List (List Bx)):Nat->List Bx
 |0=>[]
 |r+1=>(ps[r]?).getD []
def setB(l:List Bx):Bool:=decide (l.length<=4096)&&(decide ((vldB l).length=l.length)&&canB 5 l)
def addO(s:List Bx)(b:Bx):List Bx:=cano orB 5 s [b]
def makeGo:List Bx->List Bx->List Bx×Int
 |s,[]=>(s,0)
 |s,b::l=>if b.ok then(if 4096<(addO s b).length then([],3)else makeGo (addO s b) l)else makeGo s l
def makeP(l:List Bx):List Bx×Int:=makeGo [] l
theorem nodup_sub:∀{l m:List Int},l.Nodup->(∀x,x∈l->x∈m)->l.length<=m.length
 |[],m,_,_=>Nat.zero_le _
 |x::l,m,hn,hs=>by
  obtain⟨h1,h2⟩:=List.nodup_cons.1 hn
  have hx:=hs x zx
  have:=nodup_sub (m:=m.erase x) h2 fun y hy=>by
   have hne:y≠x:=fun e=>h1 (e▸hy)
   exact(List.mem_erase_of_ne hne).2 (hs y (List.mem_cons_of_mem _ hy))
  rw[List.length_erase_of_mem hx]at this
  have hpos:0<m.length:=List.length_pos_of_mem hx
  simp only[List.length_cons]
  omega
def Cn:Nat->List Bx->Prop
 |0,a=>a.length<=1
 |k+1,a=>(∀x,x∈a->∀y,y∈a->x.get (4-k)=y.get (4-k)\/(x.get (4-k)).hi<(y.get (4-k)).lo\/(y.get (4-k)).hi<(x.get (4-k)).lo)/\(∀x,x∈a->(x.get (4-k)).lo<=(x.get (4-k)).hi)/\∀v,Cn k (atF (4-k) v a)
theorem atF_map{φ:Bx->Bx}{f:Nat}{v:Int}(h:∀b,(φ b).get f=b.get f)(l:List Bx):atF f v (l.map φ)=(atF f v l).map φ:=by
 rw[atF,atF,List.filter_map]
 congr 1
 refine List.filter_congr fun b _=>?_
 simp only[Function.comp,h]
theorem Cn.map{φ:Bx->Bx}:∀{k:Nat} {l:List Bx},k<=5->(∀b f,f<=4->5<=f+k->(φ b).get f=b.get f)->Cn k l->Cn k (l.map φ)
 |0,l,_,_,h=>by rw[Cn]at h⊢;rw[List.length_map];exact h
 |k+1,l,hk,hφ,h=>by
  obtain⟨h1,h2,h3⟩:=h
  have hf:∀b,(φ b).get (4-k)=b.get (4-k):=fun b=>hφ b (4-k) zo zo
  refine⟨fun x hx y hy=>?_,fun x hx=>?_,fun v=>?_⟩
  ·obtain⟨x,gx,rfl⟩:=List.mem_map.1 hx
   obtain⟨y,gy,rfl⟩:=List.mem_map.1 hy
   rw[hf,hf];exact h1 x gx y gy
  ·obtain⟨x,gx,rfl⟩:=List.mem_map.1 hx
   rw[hf];exact h2 x gx
  ·rw[atF_map hf]
   exact Cn.map zo (fun b f h4 h5=>hφ b f h4 zo) (h3 v)
theorem Cn.nil:∀(k:Nat),Cn k []
 |0=>Nat.zero_le _
 |k+1=>⟨fun x hx=>by simp at hx,fun x hx=>by simp at hx,fun v=>Cn.nil k⟩
theorem atF_flatG{f:Nat}(hf:f<=4){v:Int}:∀{gs:List (Grp (List Bx))},Wf gs->(∀g,g∈gs->0<=g.lo/\g.hi<=4294967295)->(atF f v (flatG f gs)=[]\/∃g,g∈gs/\g.lo<=v/\v<=g.hi/\atF f v (flatG f gs)=g.val.map fun b=>b.put f (mkR g.lo g.hi))
 |[],_,_=>.inl rfl
 |g::gs,hw,hb=>by
  have hg:=hb g zx
  have hle:=hw.head
  have e:atF f v (flatG f (g::gs))=atF f v (g.val.map fun b=>b.put f (mkR g.lo g.hi))++atF f v (flatG f gs):=by
   rw[flatG,List.flatMap_cons,atF,List.filter_append];rfl
  have hget:∀b:Bx,(b.put f (mkR g.lo g.hi)).get f=mkR g.lo g.hi:=fun b=>get_put hf
  have m1:=mkR_lo hg.1 (show g.lo<=4294967295 by omega) (show 0<=g.hi by omega) hg.2
  have m2:=mkR_hi hg.1 (show g.lo<=4294967295 by omega) (show 0<=g.hi by omega) hg.2
  have ih:=atF_flatG hf (v:=v) hw.tail fun x hx=>hb x (List.mem_cons_of_mem _ hx)
  by_cases hc:g.lo<=v/\v<=g.hi
  ·have e1:atF f v (g.val.map fun b=>b.put f (mkR g.lo g.hi))=g.val.map fun b=>b.put f (mkR g.lo g.hi):=List.filter_eq_self.2 fun x hx=>by
    obtain⟨b,_,rfl⟩:=List.mem_map.1 hx
    rw[hget,m1,m2,decide_eq_true hc.1,decide_eq_true hc.2];rfl
   have e2:atF f v (flatG f gs)=[]:=by
    rcases ih with h|⟨h,hh,h1,h2,_⟩
    ·exact h
    ·have:=hw.above h hh;omega
   exact .inr ⟨g,by simp,hc.1,hc.2,by rw[e,e1,e2,List.append_nil]⟩
  ·have e1:atF f v (g.val.map fun b=>b.put f (mkR g.lo g.hi))=[]:=List.filter_eq_nil_iff.2 fun x hx=>by
    obtain⟨b,_,rfl⟩:=List.mem_map.1 hx
    rw[hget,m1,m2,Bool.and_eq_true,decide_eq_true_eq,decide_eq_true_eq];exact hc
   rw[e,e1,List.nil_append]
   rcases ih with h|⟨h,hh,h1⟩
   ·exact .inl h
   ·exact .inr ⟨h,List.mem_cons_of_mem _ hh,h1⟩
theorem wf_apart:∀{gs:List (Grp (List Bx))},Wf gs->∀g,g∈gs->∀h,h∈gs->g=h\/g.hi<h.lo\/h.hi<g.lo
 |[],_,g,hg,_,_=>by simp at hg
 |x::gs,hw,g,hg,h,hh=>by
  rcases List.mem_cons.1 hg with e1|g1
  ·rcases List.mem_cons.1 hh with e2|h1
   ·exact .inl (e1.trans e2.symm)
   ·subst e1;exact .inr (.inl (hw.above h h1).1)
  ·rcases List.mem_cons.1 hh with e2|h1
   ·subst e2;exact .inr (.inr (hw.above g g1).1)
   ·exact wf_apart hw.tail g g1 h h1
theorem cano_cn(op:Bool->Bool->Bool):∀(k:Nat) (a b:List Bx),k<=5->Cn k (cano op k a b)
 |0,a,b,_=>by rw[cano,Cn];split<;>simp
 |k+1,a,b,hk=>by
  have g:=cano_wf op k a b
  have ht:=topF_pos (4-k)
  rw[cano_succ]
  have hat:∀x,x∈groupsOf (restAt op k a b) (topF (4-k)) (starts (rngs (4-k) a b) (topF (4-k)))->x.val=restAt op k a b x.lo:=fun x hx=>by
   have h1:=g.low x hx
   have h2:=g.wf.le x hx
   have:=g.wf.at_mem hx (Int.le_refl _) h2
   rw[g.at_,if_pos zo,lab]at this
   split at this
   ·cases this
   ·exact(Option.some.inj this).symm
  generalize groupsOf (restAt op k a b) (topF (4-k)) (starts (rngs (4-k) a b) (topF (4-k)))=G at*
  have hb:∀x,x∈G->0<=x.lo/\x.hi<=4294967295:=fun x hx=>by have:=g.low x hx;omega
  have rg:∀x,x∈flatG (4-k) G->∃gr,gr∈G/\(x.get (4-k)).lo=gr.lo/\(x.get (4-k)).hi=gr.hi:=fun x hx=>by
   obtain⟨gr,hgr,hx⟩:=List.mem_flatMap.1 hx
   obtain⟨z,_,rfl⟩:=List.mem_map.1 hx
   have h1:=hb gr hgr
   have h2:=g.wf.le gr hgr
   refine⟨gr,hgr,?_,?_⟩
   ·rw[get_put zo,mkR_lo zo zo zo zo]
   ·rw[get_put zo,mkR_hi zo zo zo zo]
  refine⟨fun x hx y hy=>?_,fun x hx=>?_,fun v=>?_⟩
  ·obtain⟨gx,hgx,x1,x2⟩:=rg x hx
   obtain⟨gy,hgy,y1,y2⟩:=rg y hy
   rcases wf_apart g.wf gx hgx gy hgy with h|h|h
   ·subst h
    left
    have e1:(x.get (4-k)).lo=(y.get (4-k)).lo:=by rw[x1,y1]
    have e2:(x.get (4-k)).hi=(y.get (4-k)).hi:=by rw[x2,y2]
    generalize x.get (4-k)=r at*
    generalize y.get (4-k)=s at*
    cases r;cases s
    simp only at e1 e2
    subst e1;subst e2;rfl
   ·right;left;omega
   ·right;right;omega
  ·obtain⟨gx,hgx,x1,x2⟩:=rg x hx
   have:=g.wf.le gx hgx
   omega
  ·rcases atF_flatG (f:=4-k) zo (v:=v) g.wf hb with h|⟨gr,hgr,_,_,h⟩
   ·rw[h];exact Cn.nil k
   ·rw[h]
    refine Cn.map zo (fun b f h4 h5=>get_put_ne zo h4 zo) ?_
    rw[hat gr hgr]
    exact cano_cn op k _ _ zo
/-! ### Counting -/
def inR(r:Rg)(e:Int):Bool:=decide (r.lo<=e)&&decide (e<=r.hi)
def FromB(f:Nat)(c d:List Bx)(e:Int):Prop:=e=0\/(∃y,y∈c/\(e=(y.get f).lo\/e=(y.get f).hi+1))\/∃y,y∈d/\(e=(y.get f).lo\/e=(y.get f).hi+1)
theorem FromB.symm{f:Nat}{c d:List Bx}{e:Int}(h:FromB f c d e):FromB f d c e:=by
 rcases h with h|h|h
 ·exact .inl h
 ·exact .inr (.inr h)
 ·exact .inr (.inl h)
end Go.Proofs.YtbdikofefjljoaaGreatDoor
