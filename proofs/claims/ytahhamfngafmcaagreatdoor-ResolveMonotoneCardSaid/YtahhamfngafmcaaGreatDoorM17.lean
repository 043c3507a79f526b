/- Texts of windows, second part: Parse and Format of the reference's calendar as far as sizes go; the generator's windows. -/
import Derived.Test.YtahhamfngafmcaaGreatDoorProg
import Derived.Test.YtahhamfngafmcaaGreatDoorM16
set_option linter.unusedVariables false
set_option linter.unusedSimpArgs false
set_option maxRecDepth 100000
set_option maxHeartbeats 4000000
namespace Go.Proofs.YtahhamfngafmcaaGreatDoor
open Go Go.Vm
theorem cqClock(s:ByteArray){K:KT}(hK:∀r:Int,-1<=r->r<=1440->K (.v (.int .i64 r)) []):ACall Tryz.prog 174 [.v (.string s)] [] K:=by
 refine ofq9Clock rfl rfl ?_
 (repeat' ((conv=>whnf);first|(refine In.intro 2 rfl (by omega) ?_)|(with_reducible first|refine ix_baA (by omega) fun b=>?_|refine Sb.intro 0 2 rfl rfl (by omega) (by omega) ?_|refine Sb.intro 3 s.size rfl rfl (by omega) (by omega) ?_|refine cqTwo _ fun r=>?_|refine wr_i64 rfl (by omega) (by omega) ?_)|refine zG ?_|apply zA|(apply zI;intro h)|exact zT));(all_goals conv=>whnf)
 all_goals first
  |exact hK _ (by omega) (by omega)
  |trace_state
theorem cqParts(s:ByteArray)(c:Int)(hs:s.size<=1000){K:KT}(hK:∀l:List ByteArray,l≠[]->l.length<=2000->K (.lst (l.map encSt)) []):ACall Tryz.prog 172 [.v (.string s),.v (.int .u8 c)] [] K:=by
 refine ofq1Parts rfl rfl ?_
 (repeat' ((conv=>whnf);first|refine zG ?_|apply zA|(apply zI;intro h)|exact zT));(all_goals conv=>whnf)
 refine Lp.intro (List ByteArray×Nat×Nat) (fun g=>⟨1,[(0,.arr 1 (g.1.map encSt))],[(0,.v (.string s)),(1,.v (.int .u8 c)),(5,.os 0 1 0 g.1.length),(6,.v (.int .i64 g.2.1)),(7,.v (.int .i64 g.2.2))]⟩)
  (fun g=>g.2.2<=s.size+1/\g.2.1<=g.2.2/\g.1.length<=g.2.2/\(g.2.2=s.size+1->g.1≠[])) (fun g=>s.size+1-g.2.2) ([],0,0) ⟨by simp only;omega,Nat.le_refl _,Nat.le_refl _,fun h=>by simp only at h;omega⟩ ?_ ?_
 ·(exact leA)
 rintro⟨l,a,i⟩ ⟨h1,h2,h3,h4⟩
 simp only at h1 h2 h3 h4⊢
 rcases Nat.lt_or_ge i (s.size+1)with hl|hl
 ·(repeat' ((conv=>whnf);first|(with_reducible first|refine in_nat (by omega) ?_|refine ix_baA (by omega) fun b=>?_|refine Sb.intro a i rfl rfl (by omega) (by omega) ?_)|refine zG ?_|apply zA|(apply zI;intro h)|exact zT));(all_goals conv=>whnf)
  all_goals first
   |(refine⟨(l,a,i+1),⟨by simp only;omega,by simp only;omega,by simp only;omega,fun h=>by simp only at h;omega⟩,by simp only;omega,?_⟩
     rw[show(((l,a,i+1):List ByteArray×Nat×Nat).2.2:Int)=(i:Int)+1 from by simp only;omega]
     (exact leA)
     done)
   |(refine⟨(l++[s.extract a i],i+1,i+1),⟨by simp only;omega,by simp only;omega,by simp only[List.length_append,List.length_cons,List.length_nil];omega,fun h=>by simp⟩,by simp only;omega,?_⟩
     simp only[List.map_append,List.length_append,List.map_cons,List.map_nil,List.length_cons,List.length_nil,Int.natCast_add,Int.natCast_one]
     (exact leA)
     done)
   |(exfalso;omega)
   |trace_state
 ·(repeat' ((conv=>whnf);first|(with_reducible refine sl_full (List.length_map ..) ?_)|refine zG ?_|apply zA|(apply zI;intro h)|exact zT));(all_goals conv=>whnf)
  exact hK l (h4 (by omega)) (by omega)
theorem canon_le{l:List Rg}(h:Canon l){r:Rg}(hr:r∈l):r.lo<=r.hi:=h.1 r hr
def winL:List ByteArray:=[⟨#[109,111,110]⟩,⟨#[116,117,101]⟩,⟨#[115,117,110]⟩,⟨#[109,111,110,45,102,114,105]⟩,⟨#[115,97,116,45,115,117,110]⟩,⟨#[119,101,100,45,119,101,100]⟩]
def houL:List ByteArray:=[⟨#[48,48,58,48,48,45,50,52,58,48,48]⟩,⟨#[48,56,58,48,48,45,49,55,58,48,48]⟩,⟨#[48,56,58,48,48,45,48,56,58,48,49]⟩,⟨#[50,51,58,53,57,45,50,52,58,48,48]⟩,⟨#[49,55,58,48,48,45,49,56,58,51,48]⟩]
def IsLen(x n:Nat):Prop:=x<2^n/\(n=0\/2^(n-1)<=x)
instance (x n:Nat):Decidable (IsLen x n):=by unfold IsLen;infer_instance
theorem isLen_shift{x n s:Nat}(h:IsLen (x/2^s) n)(hx:2^s<=x):IsLen x (n+s):=by
 obtain⟨h1,h2⟩:=h
 have hp:=Nat.two_pow_pos s
 have hn:n≠0:=by
  rintro rfl
  have:=(Nat.div_lt_iff_lt_mul hp).1 h1
  omega
 refine⟨by rw[Nat.pow_add];exact(Nat.div_lt_iff_lt_mul hp).1 h1,.inr ?_⟩
 rw[show n+s-1=(n-1)+s by omega,Nat.pow_add]
 exact(Nat.le_div_iff_mul_le hp).1 (h2.resolve_left hn)
theorem wr_u8{e:Int}{K:Int->Prop}(j:Nat)(h:e=j)(hj:j<256)(hk:K j):Wr .u8 e K:=by
 subst h
 refine Wr.intro ?_ hk
 simp only[IntKind.wrap,IntKind.signed,IntKind.bits];simp;omega
def chkTab(s:ByteArray):Bool:=Nat.beq s.data.size 256&&(List.range 256).all fun j=>match s.data[j]? with
 |some b=>decide (IsLen j b.toNat)
 |none=>false
theorem tab_in{s:ByteArray}{j:Nat}{K:UInt8->Prop}(hc:chkTab s=true)(hj:j<256)(hk:∀b:UInt8,IsLen j b.toNat->b.toNat<256->K b):In (j:Int) s.size fun j'=>∃b,s[j']? =some b/\K b:=by
 simp only[chkTab,Bool.and_eq_true,List.all_eq_true,List.mem_range]at hc
 obtain⟨h1,h2⟩:=hc
 have h1:s.size=256:=Nat.eq_of_beq_eq_true h1
 have hlt:j<s.size:=by omega
 refine In.intro j rfl hlt ⟨s[j],by simp[hlt],hk _ ?_ (UInt8.toNat_lt _)⟩
 have:=h2 j hj
 have e:s.data[j]? =some s[j]:=by rw[Array.getElem?_eq_getElem (show j<s.data.size from hlt)];rfl
 rw[e]at this
 simpa using this
structure Pl where
 a:Int
 b:Int
 eg:Bool
 allow:List Bx
structure PlIn (t:Tp) (x:Pl):Prop where
 a0:0<=x.a
 a1:x.a<t.edges.length
 b0:0<=x.b
 b1:x.b<t.edges.length
 len:x.allow.length<=4096
theorem PlIn.eg{t:Tp}{x:Pl}(h:PlIn t x)(b:Bool):PlIn t {x with eg:=b}:=⟨h.a0,h.a1,h.b0,h.b1,h.len⟩
theorem cnt3_le{k:Nat}{a b:List Bx}{st:List Int}(hs:st.Pairwise (· < ·))(hf:∀e,e∈st->FromB (4-k) a b e)(ha:Cn (k+1) a)(hb:Cn (k+1) b){x y:Bx}(hx:x∈a)(hy:y∈b):
  ((st.filter (inR (x.get (4-k)))).filter (inR (y.get (4-k)))).length<=1:=by
 have hsub:=nodup_sub (List.Nodup.sublist List.filter_sublist (filter_nodup hs (inR (x.get (4-k))))) (l:=(st.filter (inR (x.get (4-k)))).filter (inR (y.get (4-k)))) (m:=[max (x.get (4-k)).lo (y.get (4-k)).lo]) fun e he=>by
  obtain⟨h1,h3⟩:=List.mem_filter.1 he
  obtain⟨h1,h2⟩:=List.mem_filter.1 h1
  rw[inR,Bool.and_eq_true,decide_eq_true_eq,decide_eq_true_eq]at h2 h3
  have hx2:=ha.2.1 x hx
  have hy2:=hb.2.1 y hy
  have hor:e=(x.get (4-k)).lo\/e=(y.get (4-k)).lo:=by
   rcases hf e h1 with h|h|h
   ·have:=(x.get (4-k)).l0
    left;omega
   ·rcases cut_in (d:=[]) ha hx (.inr (.inl h)) h2.1 h2.2 with h|⟨z,hz,_⟩
    ·left;exact h
    ·simp at hz
   ·rcases cut_in (d:=[]) hb hy (.inr (.inl h)) h3.1 h3.2 with h|⟨z,hz,_⟩
    ·right;exact h
    ·simp at hz
  have e1:e=max (x.get (4-k)).lo (y.get (4-k)).lo:=by omega
  rw[e1];simp
 simpa using hsub
theorem boundA:∀(k:Nat) (a b:List Bx),k<=5->Cn k a->Cn k b->(cano anB k a b).length<=a.length*b.length
 |0,a,b,_,_,_=>by
  rw[cano]
  split
  ·rename_i h
   simp only[anB,Bool.and_eq_true,Bool.not_eq_true',List.isEmpty_eq_false_iff]at h
   have h1:=List.length_pos_iff.2 h.1
   have h2:=List.length_pos_iff.2 h.2
   exact Nat.mul_pos h1 h2
  ·exact Nat.zero_le _
 |k+1,a,b,hk,ha,hb=>by
  rw[cano_succ,flatG_len]
  refine Nat.le_trans (groups_le _ _ _) ?_
  have hs:=(starts_inv (rngs (4-k) a b) (topF_pos (4-k)).1).sorted
  have hf:=from_starts (4-k) a b (topF (4-k))
  have h1:((starts (rngs (4-k) a b) (topF (4-k))).map fun e=>(restAt anB k a b e).length).sum<=((starts (rngs (4-k) a b) (topF (4-k))).map fun e=>(atF (4-k) e a).length*(atF (4-k) e b).length).sum:=sum_mono fun e _=>
   boundA k (atF (4-k) e a) (atF (4-k) e b) (by omega) (ha.2.2 e) (hb.2.2 e)
  have h4:=sum_at2_le (f:=4-k) (st:=starts (rngs (4-k) a b) (topF (4-k))) (N:=1) (a:=a) (b:=b) fun x hx y hy=>cnt3_le hs hf ha hb hx hy
  rw[Nat.mul_one]at h4
  exact Nat.le_trans h1 h4
end Go.Proofs.YtahhamfngafmcaaGreatDoor
