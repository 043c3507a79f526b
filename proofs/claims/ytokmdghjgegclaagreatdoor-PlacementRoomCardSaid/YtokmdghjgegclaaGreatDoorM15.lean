/- Blocks of ranges: the program's and the reference's. -/
import Derived.Test.YtokmdghjgegclaaGreatDoorProg
import Derived.Test.YtokmdghjgegclaaGreatDoorM14
set_option linter.unusedVariables false
set_option linter.unusedSimpArgs false
set_option maxRecDepth 100000
set_option maxHeartbeats 4000000
namespace Go.Proofs.YtokmdghjgegclaaGreatDoor
open Go Go.Vm
def blkK(lo n:Nat):Nat->Nat
 |0=>0
 |k+1=>if lo%2^(k+1)=0/\2^(k+1)<=n then k+1 else blkK lo n k
theorem blkK_spec(lo n:Nat)(hn:1<=n):∀k,blkK lo n k<=k/\lo%2^blkK lo n k=0/\2^blkK lo n k<=n
 |0=>⟨Nat.le_refl _,by simp[blkK,Nat.mod_one],by simpa[blkK]using hn⟩
 |k+1=>by
  unfold blkK
  split
  ·rename_i h;exact⟨Nat.le_refl _,h.1,h.2⟩
  ·have:=blkK_spec lo n hn k;exact⟨by omega,this.2⟩
theorem blkK_max(lo n:Nat):∀(k j:Nat),j<=k->lo%2^j=0->2^j<=n->j<=blkK lo n k
 |0,j,hj,_,_=>by omega
 |k+1,j,hj,h1,h2=>by
  unfold blkK
  split
  ·exact hj
  ·rename_i hn
   rcases Nat.lt_or_ge k j with h|h
   ·have:j=k+1:=by omega
    subst this
    exact absurd ⟨h1,h2⟩ hn
   ·exact blkK_max lo n k j h h1 h2
def blks:Nat->Nat->Nat->List (Nat×Nat)
 |0,_,_=>[]
 |f+1,lo,e=>if lo<e then(lo,blkK lo (e-lo) 32)::blks f (lo+2^blkK lo (e-lo) 32) e else []
theorem blks_fuel:∀(f g lo e:Nat),e-lo<=f->e-lo<=g->blks f lo e=blks g lo e
 |0,0,_,_,_,_=>rfl
 |0,g+1,lo,e,h,_=>by rw[blks,blks,if_neg (by omega)]
 |f+1,0,lo,e,_,h=>by rw[blks,blks,if_neg (by omega)]
 |f+1,g+1,lo,e,h1,h2=>by
  rw[blks,blks]
  split
  ·have:=Nat.two_pow_pos (blkK lo (e-lo) 32)
   rw[blks_fuel f g _ _ (by omega) (by omega)]
  ·rfl
def blksOf(lo e:Nat):List (Nat×Nat):=blks (e-lo) lo e
theorem blksOf_step{lo e:Nat}(h:lo<e):blksOf lo e=(lo,blkK lo (e-lo) 32)::blksOf (lo+2^blkK lo (e-lo) 32) e:=by
 have:=Nat.two_pow_pos (blkK lo (e-lo) 32)
 rw[blksOf,blksOf,show e-lo=(e-lo-1)+1 by omega,blks,if_pos h]
 rw[show e-lo-1+1=e-lo by omega]
 rw[blks_fuel (e-lo-1) _ _ _ (by omega) (Nat.le_refl _)]
theorem blksOf_end{lo e:Nat}(h:e<=lo):blksOf lo e=[]:=by rw[blksOf,show e-lo=0 by omega];rfl
noncomputable abbrev encB(b:Nat×Nat):AV:=.agg [.v (.int .u32 (b.1:Int)),.v (.int .u32 ((b.1+2^b.2-1:Nat):Int))]
theorem sz_half{sz:Nat}:(sz:Int).tdiv 2=((sz/2:Nat):Int):=rfl
theorem blkK_low{lo n w:Nat}(h:n<2^(w+1)):∀d,blkK lo n (w+d)=blkK lo n w
 |0=>rfl
 |d+1=>by
  rw[<-Nat.add_assoc,blkK,if_neg,blkK_low h d]
  rintro⟨_,h2⟩
  have:=Nat.pow_le_pow_right (n:=2) (by omega) (show w+1<=w+d+1 by omega)
  omega
theorem w_wrap{w:Nat}(hw:w=32\/w=16\/w=8):IntKind.u64.wrap (1*2^min (Int.toNat (w:Int)) IntKind.u64.bits)=((2^w:Nat):Int):=by
 rcases hw with rfl|rfl|rfl<;>decide
theorem cpBlocksW(w:Nat)(hw:w=32\/w=16\/w=8)(lo hi:Nat)(h:lo<=hi)(h2:hi<2^w){K:KT}(hK:K (.lst ((blksOf lo (hi+1)).map encB)) []):
  ACall Tryz.prog 187 [.agg [.v (.int .u32 (lo:Int)),.v (.int .u32 (hi:Int))],.v (.int .i64 w)] [] K:=by
 refine ofpBlocks rfl rfl ?_
 have w32:=w_wrap hw
 have hw32:w<=32:=by omega
 have hP:2^w<=4294967296:=Nat.pow_le_pow_right (n:=2) (by omega) hw32
 have hlow:∀at_,blkK at_ (hi+1-at_) 32=blkK at_ (hi+1-at_) w:=fun at_=>by
  have:=blkK_low (lo:=at_) (n:=hi+1-at_) (w:=w) (by rw[Nat.pow_succ];omega) (32-w)
  rwa[show w+(32-w)=32 by omega]at this
 have hPe:∀j,j=w->2^w=2^j:=fun j h=>by rw[h]
 generalize hPP:2^w=P at w32 h2 hP
 (repeat' ((conv=>whnf);first|(with_reducible refine wr_is w32 ?_)|refine zG ?_|apply zA|(apply zI;intro h)|exact zT));(all_goals conv=>whnf)
 refine Lp.intro (Nat×List (Nat×Nat)) (fun g=>⟨2,[(1,.arr 2 (g.2.map encB))],[(1,.v (.int .i64 w)),(5,.os 1 2 0 g.2.length),(6,.v (.int .u64 g.1)),(7,.v (.int .u64 ((hi:Int)+1)))]⟩)
  (fun g=>lo<=g.1/\g.1<=hi+1/\g.2.length<=g.1-lo/\g.2++blksOf g.1 (hi+1)=blksOf lo (hi+1)) (fun g=>hi+1-g.1) (lo,[]) ?_ ?_ ?_
 ·exact⟨Nat.le_refl _,by simp only;omega,Nat.zero_le _,rfl⟩
 ·(exact leA)
 rintro⟨at_,out⟩ ⟨i1,i2,i3,i4⟩
 simp only at i1 i2 i3 i4⊢
 rcases Nat.lt_or_ge at_ (hi+1)with hlt|hge
 ·(repeat' ((conv=>whnf);first|(with_reducible refine wr_is w32 ?_)|refine zG ?_|apply zA|(apply zI;intro h)|exact zT));(all_goals conv=>whnf)
  refine Lp.intro (Nat×Nat) (fun g=>⟨2,[(1,.arr 2 (out.map encB))],[(1,.v (.int .i64 w)),(5,.os 1 2 0 out.length),(6,.v (.int .u64 at_)),(7,.v (.int .u64 ((hi:Int)+1))),(8,.v (.int .u64 g.2))]⟩)
   (fun g=>g.1<=32/\g.2=2^g.1/\blkK at_ (hi+1-at_) 32=blkK at_ (hi+1-at_) g.1) (fun g=>g.1) (w,P) ?_ ?_ ?_
  ·exact⟨hw32,hPP.symm,hlow at_⟩
  ·(exact leA)
  rintro⟨j,sz⟩ ⟨j1,j2,j3⟩
  simp only at j1 j2 j3⊢
  have hsz:0<sz:=by rw[j2];exact Nat.two_pow_pos j
  have hsz2:sz<=4294967296:=by rw[j2];exact Nat.pow_le_pow_right (n:=2) (by omega) j1
  have hne:(sz:Int)≠0:=by omega
  have hkeep:(at_%sz≠0\/hi+1-at_<sz)->1<=j/\sz/2=2^(j-1)/\blkK at_ (hi+1-at_) j=blkK at_ (hi+1-at_) (j-1):=by
   intro hc
   cases j with
   |zero=>simp at j2;subst j2;omega
   |succ j=>
    refine⟨by omega,by rw[j2,Nat.pow_succ,Nat.add_sub_cancel];omega,?_⟩
    rw[blkK,if_neg (by rw[<-j2];omega),Nat.add_sub_cancel]
  have hmod:(at_:Int).tmod (sz:Int)=((at_%sz:Nat):Int):=rfl
  (repeat' ((conv=>whnf);first|(with_reducible first|refine Ob.intro hne ?_|refine wr_u64 sz_half (by omega) (by omega) ?_)|refine zG ?_|apply zA|(apply zI;intro h)|exact zT));(all_goals conv=>whnf)
  ·obtain⟨k1,k2,k3⟩:=hkeep (.inr (by omega))
   refine⟨(j-1,sz/2),⟨by simp only;omega,k2,by rw[j3,k3]⟩,by simp only;omega,?_⟩
   simp only
   (exact leA)
  ·rename_i hm
   rw[hmod]at hm
   have hk:blkK at_ (hi+1-at_) 32=j:=by
    rw[j3]
    cases j with
    |zero=>rfl
    |succ j=>rw[blkK,if_pos (by rw[<-j2];omega)]
   have he:encB (at_,j)=.agg [.v (.int .u32 (at_:Int)),.v (.int .u32 ((at_:Int)+sz-1))]:=by
    have:((at_+2^j-1:Nat):Int)=(at_:Int)+sz-1:=by rw[<-j2];omega
    simp only[encB,this]
   refine⟨(at_+sz,out++[(at_,j)]),⟨by simp only;omega,by simp only;omega,by simp only[List.length_append,List.length_cons,List.length_nil];omega,?_⟩,by simp only;omega,?_⟩
   ·simp only
    rw[<-i4,blksOf_step hlt,hk,<-j2,List.append_assoc,List.singleton_append]
   ·simp only[List.map_append,List.length_append,List.map_cons,List.map_nil,List.length_cons,List.length_nil]
    rw[he]
    (exact leA)
  ·have hm:=h
   rw[hmod]at hm
   obtain⟨k1,k2,k3⟩:=hkeep (.inl (by omega))
   refine⟨(j-1,sz/2),⟨by simp only;omega,k2,by rw[j3,k3]⟩,by simp only;omega,?_⟩
   simp only
   (exact leA)
 ·(repeat' ((conv=>whnf);first|refine zG ?_|apply zA|(apply zI;intro h)|exact zT));(all_goals conv=>whnf)
  rw[blksOf_end (by omega),List.append_nil]at i4
  rw[i4]
  exact hK
theorem blkK_is{at_ e k:Nat}(h1:at_%2^k=0)(h2:at_+2^k<=e)(he:e<=4294967296)(h3:¬(at_%2^(k+1)=0/\at_+2^(k+1)<=e)):blkK at_ (e-at_) 32=k:=by
 have hp:=Nat.two_pow_pos k
 have hk:k<=32:=by
  rcases Nat.lt_or_ge 32 k with h|h
  ·have:=Nat.pow_le_pow_right (n:=2) (by omega) (show 33<=k by omega)
   omega
  ·exact h
 have a1:=blkK_max at_ (e-at_) 32 k hk h1 (by omega)
 obtain⟨s1,s2,s3⟩:=blkK_spec at_ (e-at_) (by omega) 32
 rcases Nat.lt_or_ge k (blkK at_ (e-at_) 32)with h|h
 ·exfalso
  apply h3
  have d:2^(k+1)∣2^blkK at_ (e-at_) 32:=Nat.pow_dvd_pow 2 h
  have q:=Nat.le_of_dvd (Nat.two_pow_pos _) d
  exact⟨Nat.mod_eq_zero_of_dvd (Nat.dvd_trans d (Nat.dvd_of_mod_eq_zero s2)),by omega⟩
 ·omega
theorem crBlocksW(w:Nat)(hw:w=32\/w=16\/w=8)(lo hi:Nat)(hle:lo<=hi)(hlt2:hi<2^w){K:KT}(hK:K (.lst ((blksOf lo (hi+1)).map encB)) []):
  ACall Tryz.prog 184 [.agg [.v (.int .u32 (lo:Int)),.v (.int .u32 (hi:Int))],.v (.int .i64 w)] [] K:=by
 refine ofrBlocks rfl rfl ?_
 have w32:=w_wrap hw
 have hw32:w<=32:=by omega
 have h2:hi<=4294967295:=by
  have:2^w<=4294967296:=Nat.pow_le_pow_right (n:=2) (by omega) hw32
  omega
 generalize hPP:2^w=P at w32 hlt2
 (repeat' ((conv=>whnf);first|(with_reducible refine wr_is w32 ?_)|refine zG ?_|apply zA|(apply zI;intro h)|exact zT));(all_goals conv=>whnf)
 refine Lp.intro (Nat×List (Nat×Nat)) (fun g=>⟨2,[(1,.arr 2 (g.2.map encB))],[(5,.os 1 2 0 g.2.length),(6,.v (.int .u64 g.1)),(7,.v (.int .u64 ((hi:Int)+1)))]⟩)
  (fun g=>lo<=g.1/\g.1<=hi+1/\g.2.length<=g.1-lo/\g.2++blksOf g.1 (hi+1)=blksOf lo (hi+1)) (fun g=>hi+1-g.1) (lo,[]) ?_ ?_ ?_
 ·exact⟨Nat.le_refl _,by simp only;omega,Nat.zero_le _,rfl⟩
 ·(exact leA)
 rintro⟨at_,out⟩ ⟨i1,i2,i3,i4⟩
 simp only at i1 i2 i3 i4⊢
 rcases Nat.lt_or_ge at_ (hi+1)with hlt|hge
 ·(repeat' ((conv=>whnf);first|refine zG ?_|apply zA|(apply zI;intro h)|exact zT));(all_goals conv=>whnf)
  refine Lp.intro (Nat×Nat) (fun g=>⟨2,[(1,.arr 2 (out.map encB))],[(5,.os 1 2 0 out.length),(6,.v (.int .u64 at_)),(7,.v (.int .u64 ((hi:Int)+1))),(8,.v (.int .u64 g.2))]⟩)
   (fun g=>g.2=2^g.1/\at_%g.2=0/\at_+g.2<=hi+1) (fun g=>hi+1-g.2) (0,1) ?_ ?_ ?_
  ·exact⟨rfl,Nat.mod_one _,by simp only;omega⟩
  ·(exact leA)
  rintro⟨j,sz⟩ ⟨j2,j3,j4⟩
  simp only at j2 j3 j4⊢
  have hsz:0<sz:=by rw[j2];exact Nat.two_pow_pos j
  have hne:(2*(sz:Int))≠0:=by omega
  have hpw:2*sz=2^(j+1):=by rw[Nat.pow_succ,j2,Nat.mul_comm]
  have hmod:(at_:Int).tmod (2*(sz:Int))=((at_%(2*sz):Nat):Int):=rfl
  have hm1:at_%(2*sz)<2*sz:=Nat.mod_lt _ (by omega)
  (repeat' ((conv=>whnf);first|(with_reducible first|refine Ob.intro hne ?_|refine wr_u64 hmod (by omega) (by omega) ?_)|refine zG ?_|apply zA|(apply zI;intro h)|exact zT));(all_goals conv=>whnf)
  ·rename_i hm
   rw[hmod]at hm
   refine⟨(j+1,2*sz),⟨hpw,by simp only;omega,by simp only;omega⟩,by simp only;omega,?_⟩
   simp only
   rw[show((2*sz:Nat):Int)=(sz:Int)*2 by omega]
   (exact leA)
  ·rename_i hm
   rw[hmod]at hm
   have hk:blkK at_ (hi+1-at_) 32=j:=blkK_is (by rw[<-j2];exact j3) (by rw[<-j2];exact j4) (by omega) (by rw[<-hpw];omega)
   have he:encB (at_,j)=.agg [.v (.int .u32 (at_:Int)),.v (.int .u32 ((at_:Int)+sz-1))]:=by
    have:((at_+2^j-1:Nat):Int)=(at_:Int)+sz-1:=by rw[<-j2];omega
    simp only[encB,this]
   refine⟨(at_+sz,out++[(at_,j)]),⟨by simp only;omega,by simp only;omega,by simp only[List.length_append,List.length_cons,List.length_nil];omega,?_⟩,by simp only;omega,?_⟩
   ·simp only
    rw[<-i4,blksOf_step hlt,hk,<-j2,List.append_assoc,List.singleton_append]
   ·simp only[List.map_append,List.length_append,List.map_cons,List.map_nil,List.length_cons,List.length_nil]
    rw[he]
    (exact leA)
  ·have hm:=h
   rw[hmod]at hm
   have hk:blkK at_ (hi+1-at_) 32=j:=blkK_is (by rw[<-j2];exact j3) (by rw[<-j2];exact j4) (by omega) (by rw[<-hpw];omega)
   have he:encB (at_,j)=.agg [.v (.int .u32 (at_:Int)),.v (.int .u32 ((at_:Int)+sz-1))]:=by
    have:((at_+2^j-1:Nat):Int)=(at_:Int)+sz-1:=by rw[<-j2];omega
    simp only[encB,this]
   refine⟨(at_+sz,out++[(at_,j)]),⟨by simp only;omega,by simp only;omega,by simp only[List.length_append,List.length_cons,List.length_nil];omega,?_⟩,by simp only;omega,?_⟩
   ·simp only
    rw[<-i4,blksOf_step hlt,hk,<-j2,List.append_assoc,List.singleton_append]
   ·simp only[List.map_append,List.length_append,List.map_cons,List.map_nil,List.length_cons,List.length_nil]
    rw[he]
    (exact leA)
 ·(repeat' ((conv=>whnf);first|refine zG ?_|apply zA|(apply zI;intro h)|exact zT));(all_goals conv=>whnf)
  rw[blksOf_end (by omega),List.append_nil]at i4
  rw[i4]
  exact hK
theorem blk_desc:∀(j lo e:Nat),lo%2^j=0->e-lo<2^j->j<=33->(blksOf lo e).length<=j:=by
 intro j
 induction j using Nat.strongRecOn with
 |_ j ih=>
  intro lo e h1 h2 h3
  rcases Nat.lt_or_ge lo e with hlt|hge
  ·rw[blksOf_step hlt,List.length_cons]
   obtain⟨s1,s2,s3⟩:=blkK_spec lo (e-lo) (by omega) 32
   generalize hk:blkK lo (e-lo) 32=k at*
   have hkj:k<j:=by
    rcases Nat.lt_or_ge k j with h|h
    ·exact h
    ·have:=Nat.pow_le_pow_right (n:=2) (by omega) h
     omega
   have hup:e-lo<2^(k+1):=by
    rcases Nat.lt_or_ge (e-lo) (2^(k+1))with h|h
    ·exact h
    ·exfalso
     have hk1:k+1<=32:=by
      rcases Nat.lt_or_ge (k+1) j with h'|h'
      ·omega
      ·have:=Nat.pow_le_pow_right (n:=2) (by omega) h'
       omega
     have hd:lo%2^(k+1)=0:=Nat.mod_eq_zero_of_dvd (Nat.dvd_trans (Nat.pow_dvd_pow 2 hkj) (Nat.dvd_of_mod_eq_zero h1))
     have:=blkK_max lo (e-lo) 32 (k+1) hk1 hd h
     omega
   have hm:(lo+2^k)%2^k=0:=by rw[Nat.add_mod_right];exact s2
   have:=ih k hkj (lo+2^k) e hm (by rw[Nat.pow_succ]at hup;omega) (by omega)
   omega
  ·rw[blksOf_end hge];exact Nat.zero_le _
theorem blk_asc:∀(d j lo e:Nat),j+d=33->lo%2^j=0->e<=4294967296->(blksOf lo e).length<=d+33:=by
 intro d
 induction d with
 |zero=>
  intro j lo e hj h1 h2
  have:=blk_desc 33 lo e (by rw[<-hj];exact h1) (by have:(2:Nat)^33=8589934592:=by decide
                                                    omega) (Nat.le_refl _)
  omega
 |succ d ih=>
  intro j lo e hj h1 h2
  rcases Nat.lt_or_ge lo e with hlt|hge
  ·rcases Nat.lt_or_ge (e-lo) (2^j)with hb|hb
   ·have:=blk_desc j lo e h1 hb (by omega);omega
   ·rw[blksOf_step hlt,List.length_cons]
    obtain⟨s1,s2,s3⟩:=blkK_spec lo (e-lo) (by omega) 32
    have hjk:=blkK_max lo (e-lo) 32 j (by omega) h1 hb
    generalize hk:blkK lo (e-lo) 32=k at*
    have hm:(lo+2^k)%2^k=0:=by rw[Nat.add_mod_right];exact s2
    rcases Nat.lt_or_ge (e-lo) (2^(k+1))with hu|hu
    ·have:=blk_desc k (lo+2^k) e hm (by rw[Nat.pow_succ]at hu;omega) (by omega)
     omega
    ·have hd:lo%2^(k+1)≠0:=fun h0=>by
      have hk1:k+1<=32:=by
       rcases Nat.lt_or_ge (k+1) 33 with h'|h'
       ·omega
       ·have:=Nat.pow_le_pow_right (n:=2) (by omega) h'
        have:(2:Nat)^33=8589934592:=by decide
        omega
      have:=blkK_max lo (e-lo) 32 (k+1) hk1 h0 hu
      omega
     have hm2:(lo+2^k)%2^(k+1)=0:=by
      obtain⟨c,hc⟩:=Nat.dvd_of_mod_eq_zero s2
      have hodd:c%2=1:=by
       rcases Nat.mod_two_eq_zero_or_one c with h0|h0
       ·exfalso;apply hd
        obtain⟨c',hc'⟩:=Nat.dvd_of_mod_eq_zero h0
        rw[hc,hc',Nat.pow_succ,<-Nat.mul_assoc]
        exact Nat.mul_mod_right _ _
       ·exact h0
      have:lo+2^k=2^(k+1)*(c/2+1):=by
       have h5:c=2*(c/2)+1:=by omega
       rw[hc,Nat.pow_succ,Nat.mul_assoc,Nat.mul_add,Nat.mul_one]
       calc 2^k*c+2^k=2^k*(c+1):=by rw[Nat.mul_add,Nat.mul_one]
        _=2^k*(2*(c/2)+2):=by congr 1;omega
      rw[this];exact Nat.mul_mod_right _ _
     have hm3:(lo+2^k)%2^(j+1)=0:=Nat.mod_eq_zero_of_dvd (Nat.dvd_trans (Nat.pow_dvd_pow 2 (by omega)) (Nat.dvd_of_mod_eq_zero hm2))
     have:=ih (j+1) (lo+2^k) e (by omega) hm3 h2
     omega
  ·rw[blksOf_end hge];exact Nat.zero_le _
theorem blks_66{lo e:Nat}(h:e<=4294967296):(blksOf lo e).length<=66:=blk_asc 33 0 lo e rfl (Nat.mod_one _) h
def blkL(r:Rg):List (Nat×Nat):=blksOf r.lo.toNat (r.hi.toNat+1)
def blkN(r:Rg):Nat:=(blkL r).length
theorem blkN_le(r:Rg):blkN r<=66:=blks_66 (by have:=r.h1;omega)
def prodB(b:Bx):Nat:=blkN b.r0*blkN b.r1*blkN b.r2*blkN b.r3*blkN b.r4
theorem prodB_le(b:Bx):prodB b<=1252332576:=by
 have h0:=blkN_le b.r0;have h1:=blkN_le b.r1;have h2:=blkN_le b.r2;have h3:=blkN_le b.r3;have h4:=blkN_le b.r4
 have e1:blkN b.r0*blkN b.r1<=66*66:=Nat.mul_le_mul h0 h1
 have e2:blkN b.r0*blkN b.r1*blkN b.r2<=66*66*66:=Nat.mul_le_mul e1 h2
 have e3:blkN b.r0*blkN b.r1*blkN b.r2*blkN b.r3<=66*66*66*66:=Nat.mul_le_mul e2 h3
 exact Nat.mul_le_mul e3 h4
def costB(b:Bx)(rg:Bool):Nat:=if b.ok then(if rg then 1 else prodB b)else 0
theorem costB_le(b:Bx)(rg:Bool):costB b rg<=1252332576:=by
 have:=prodB_le b
 unfold costB
 split
 ·split<;>omega
 ·omega
def sumB(l:List Bx)(rg:Bool):Nat:=(l.map fun b=>costB b rg).sum
theorem sumB_succ{l:List Bx}{rg:Bool}{k:Nat}{x:Bx}(h:l[k]? =some x):sumB (l.take (k+1)) rg=sumB (l.take k) rg+costB x rg:=by
 simp[sumB,List.take_add_one,h]
theorem sumB_le(rg:Bool):∀l:List Bx,sumB l rg<=l.length*1252332576
 |[]=>Nat.zero_le _
 |x::l=>by
  have:=sumB_le rg l
  have:=costB_le x rg
  simp only[sumB,List.map_cons,List.sum_cons,List.length_cons]at*
  omega
theorem cpBlkR(w:Nat)(hw:w=32\/w=16\/w=8)(r:Rg)(hle:r.lo<=r.hi)(hlt:r.hi<((2^w:Nat):Int)){K:KT}(hK:K (.lst ((blkL r).map encB)) []):
  ACall Tryz.prog 187 [.agg [.v (.int .u32 r.lo),.v (.int .u32 r.hi)],.v (.int .i64 w)] [] K:=by
 have h0:=r.l0;have h1:=r.h0
 have e1:r.lo=((r.lo.toNat:Nat):Int):=by omega
 have e2:r.hi=((r.hi.toNat:Nat):Int):=by omega
 unfold blkL at hK
 rw[e1,e2]
 exact cpBlocksW w hw r.lo.toNat r.hi.toNat (by omega) (by omega) hK
theorem crBlkR(w:Nat)(hw:w=32\/w=16\/w=8)(r:Rg)(hle:r.lo<=r.hi)(hlt:r.hi<((2^w:Nat):Int)){K:KT}(hK:K (.lst ((blkL r).map encB)) []):
  ACall Tryz.prog 184 [.agg [.v (.int .u32 r.lo),.v (.int .u32 r.hi)],.v (.int .i64 w)] [] K:=by
 have h0:=r.l0;have h1:=r.h0
 have e1:r.lo=((r.lo.toNat:Nat):Int):=by omega
 have e2:r.hi=((r.hi.toNat:Nat):Int):=by omega
 unfold blkL at hK
 rw[e1,e2]
 exact crBlocksW w hw r.lo.toNat r.hi.toNat (by omega) (by omega) hK
structure Pl where
 a:Int
 b:Int
 eg:Bool
 allow:List Bx
noncomputable abbrev encPl(x:Pl):AV:=.agg [.v (.int .i64 x.a),.v (.int .i64 x.b),.sb x.eg,encXs x.allow]
def addAt(l:List Nat)(i v:Nat):List Nat:=l.set i (l.getD i 0+v)
def devOf(es:List Ed)(i:Int):Nat:=match es[i.toNat]? with
 |some e=>e.dev.toNat
 |none=>0
def rgD(ds:List Dv)(d:Nat):Bool:=match ds[d]? with
 |some x=>x.rg
 |none=>false
def whoT(t:Tp)(a b:Int):Bx:=match t.edges[a.toNat]?,t.edges[b.toNat]? with
 |some ea,some eb=>whoB ea.pf eb.pf
 |_,_=>zB
def enfD(t:Tp)(x:Pl):Nat:=if x.eg then devOf t.edges x.b else devOf t.edges x.a
def othD(t:Tp)(x:Pl):Nat:=if x.eg then devOf t.edges x.a else devOf t.edges x.b
def costP(t:Tp)(l:List Nat)(x:Pl):List Nat:=
 addAt (addAt l (enfD t x) (sumB x.allow (rgD t.devs (enfD t x)))) (othD t x) (costB (whoT t x.a x.b) (rgD t.devs (othD t x)))
def fitsP(t:Tp)(l:List Nat):Bool:=(t.devs.zip l).all fun q=>decide ((q.2:Int)<=q.1.cap)
def placeStep(t:Tp)(s:List Pl×List Nat)(x:Pl):Option (List Pl×List Nat):=
 if fitsP t (costP t s.2 x)then some (s.1++[x],costP t s.2 x)
 else if fitsP t (costP t s.2 {x with eg:=true})then some (s.1++[{x with eg:=true}],costP t s.2 {x with eg:=true})else none
def placeGo(t:Tp):List Pl->List Pl×List Nat->Option (List Pl×List Nat)
 |[],s=>some s
 |x::l,s=>match placeStep t s x with
  |some s'=>placeGo t l s'
  |none=>none
theorem placeGo_app(t:Tp):∀(l m:List Pl) (s:List Pl×List Nat),placeGo t (l++m) s=match placeGo t l s with
  |some s'=>placeGo t m s'
  |none=>none
 |[],m,s=>rfl
 |x::l,m,s=>by
  rw[List.cons_append,placeGo,placeGo]
  cases placeStep t s x with
  |none=>rfl
  |some s'=>exact placeGo_app t l m s'
def preI(n a b:Nat):List (Nat×Nat):=((List.range a).flatMap fun i=>(List.range n).map fun j=>(i,j))++(List.range b).map fun j=>(a,j)
theorem preI_succ(n a b:Nat):preI n a (b+1)=preI n a b++[(a,b)]:=by
 rw[preI,preI,List.range_succ,List.map_append,List.append_assoc];rfl
theorem preI_row(n a:Nat):preI n a n=preI n (a+1) 0:=by
 simp[preI,List.range_succ]
def idxI(n:Nat):List (Nat×Nat):=preI n n 0
theorem preI_len(n a b:Nat):(preI n a b).length=a*n+b:=by
 rw[preI,List.length_append,List.length_map,List.length_range]
 congr 1
 induction a with
 |zero=>simp
 |succ a ih=>rw[List.range_succ,List.flatMap_append,List.length_append,ih,Nat.succ_mul];simp
noncomputable def pairsOf(t:Tp)(p:Pol)(l:List (Nat×Nat)):List Pl:=l.filterMap fun q=>if(pairP t p q.1 q.2).1=[]then none else some ⟨q.1,q.2,false,(pairP t p q.1 q.2).1⟩
theorem pairsOf_snoc(t:Tp)(p:Pol)(l:List (Nat×Nat))(q:Nat×Nat):pairsOf t p (l++[q])=pairsOf t p l++(if(pairP t p q.1 q.2).1=[]then []else [⟨q.1,q.2,false,(pairP t p q.1 q.2).1⟩]):=by
 rw[pairsOf,List.filterMap_append,pairsOf]
 congr 1
 by_cases h:(pairP t p q.1 q.2).1=[]
 ·simp[h]
 ·simp[h]
theorem pairsOf_len(t:Tp)(p:Pol)(l:List (Nat×Nat)):(pairsOf t p l).length<=l.length:=List.length_filterMap_le ..
noncomputable def errOf(t:Tp)(p:Pol):List (Nat×Nat)->Int
 |[]=>0
 |q::l=>if(pairP t p q.1 q.2).2≠0 then(pairP t p q.1 q.2).2 else errOf t p l
theorem errOf_app(t:Tp)(p:Pol):∀(l m:List (Nat×Nat)),errOf t p l=0->errOf t p (l++m)=errOf t p m
 |[],m,_=>rfl
 |q::l,m,h=>by
  rw[errOf]at h
  rw[List.cons_append,errOf]
  split at h
  ·rename_i hn;exact absurd h hn
  ·rename_i hn
   rw[if_neg hn]
   exact errOf_app t p l m h
theorem errOf_pre(t:Tp)(p:Pol):∀(l m:List (Nat×Nat)),errOf t p l≠0->errOf t p (l++m)=errOf t p l
 |[],m,h=>absurd rfl h
 |q::l,m,h=>by
  rw[errOf]at h
  rw[List.cons_append,errOf,errOf]
  split
  ·rfl
  ·rename_i hn
   rw[if_neg hn]at h
   exact errOf_pre t p l m h
def zeros(n:Nat):List Nat:=List.replicate n 0
noncomputable def placeP(t:Tp)(p:Pol):List Pl×Int:=
 if polB t p=false then([],1)else if errOf t p (idxI t.edges.length)≠0 then([],errOf t p (idxI t.edges.length))else
  match placeGo t (pairsOf t p (idxI t.edges.length)) ([],zeros t.devs.length)with
  |some s=>(s.1,0)
  |none=>([],9)
structure PlIn (t:Tp) (x:Pl):Prop where
 a0:0<=x.a
 a1:x.a<t.edges.length
 b0:0<=x.b
 b1:x.b<t.edges.length
 len:x.allow.length<=4096
theorem PlIn.eg{t:Tp}{x:Pl}(h:PlIn t x)(b:Bool):PlIn t {x with eg:=b}:=⟨h.a0,h.a1,h.b0,h.b1,h.len⟩
def DevIn(t:Tp):Prop:=∀e,e∈t.edges->0<=e.dev/\e.dev<t.devs.length
theorem devOf_lt{t:Tp}(ht:DevIn t){i:Int}(h0:0<=i)(h1:i<t.edges.length):devOf t.edges i<t.devs.length:=by
 unfold devOf
 have hl:i.toNat<t.edges.length:=by omega
 rw[List.getElem?_eq_getElem hl]
 have:=ht _ (List.getElem_mem hl)
 simp only
 omega
theorem enf_lt{t:Tp}(ht:DevIn t){x:Pl}(h:PlIn t x):enfD t x<t.devs.length:=by
 unfold enfD;split
 ·exact devOf_lt ht h.b0 h.b1
 ·exact devOf_lt ht h.a0 h.a1
theorem oth_lt{t:Tp}(ht:DevIn t){x:Pl}(h:PlIn t x):othD t x<t.devs.length:=by
 unfold othD;split
 ·exact devOf_lt ht h.a0 h.a1
 ·exact devOf_lt ht h.b0 h.b1
theorem addAt_take{l:List Nat}{n i v:Nat}(h:i<n):(addAt l i v).take n=addAt (l.take n) i v:=by
 unfold addAt
 rw[List.take_set]
 congr 2
 rw[List.getD_eq_getElem?_getD,List.getD_eq_getElem?_getD,List.getElem?_take,if_pos h]
theorem addAt_len{l:List Nat}{i v:Nat}:(addAt l i v).length=l.length:=by rw[addAt,List.length_set]
theorem costP_len(t:Tp)(l:List Nat)(x:Pl):(costP t l x).length=l.length:=by rw[costP,addAt_len,addAt_len]
theorem costP_take{t:Tp}(ht:DevIn t){l:List Nat}{x:Pl}(h:PlIn t x):(costP t l x).take t.devs.length=costP t (l.take t.devs.length) x:=by
 rw[costP,costP,addAt_take (oth_lt ht h),addAt_take (enf_lt ht h)]
theorem zip_take{α β:Type}:∀(ds:List α) (l:List β),ds.zip (l.take ds.length)=ds.zip l
 |[],l=>by simp
 |d::ds,[]=>by simp
 |d::ds,x::l=>by simp[zip_take ds l]
theorem fitsP_take(t:Tp)(l:List Nat):fitsP t (l.take t.devs.length)=fitsP t l:=by
 unfold fitsP
 rw[zip_take]
theorem placeGo_take{t:Tp}(ht:DevIn t):∀(l:List Pl) (o:List Pl) (s:List Nat),(∀x,x∈l->PlIn t x)->placeGo t l (o,s.take t.devs.length)=(placeGo t l (o,s)).map fun r=>(r.1,r.2.take t.devs.length)
 |[],o,s,_=>rfl
 |x::l,o,s,h=>by
  have hx:=h x (by simp)
  have hx':=hx.eg true
  have hl:=fun y hy=>h y (List.mem_cons_of_mem x hy)
  rw[placeGo,placeGo,placeStep,placeStep]
  simp only
  rw[<-costP_take ht hx,<-costP_take ht hx',fitsP_take,fitsP_take]
  by_cases h1:fitsP t (costP t s x)=true
  ·rw[if_pos h1,if_pos h1]
   exact placeGo_take ht l _ _ hl
  ·rw[if_neg h1,if_neg h1]
   by_cases h2:fitsP t (costP t s {x with eg:=true})=true
   ·rw[if_pos h2,if_pos h2]
    exact placeGo_take ht l _ _ hl
   ·rw[if_neg h2,if_neg h2];rfl
def Small(m:Nat)(l:List Nat):Prop:=∀v,v∈l->v<=m*5130807563872
theorem addAt_small{l:List Nat}{i v c:Nat}(h:∀x,x∈l->x<=c):∀x,x∈addAt l i v->x<=c+v:=by
 intro x hx
 unfold addAt at hx
 rcases List.mem_or_eq_of_mem_set hx with hx|rfl
 ·exact Nat.le_trans (h x hx) (by omega)
 ·rw[List.getD_eq_getElem?_getD]
  cases hg:l[i]? with
  |none=>simp
  |some y=>
   have:=h y (List.mem_of_getElem? hg)
   simp only[Option.getD_some]
   omega
theorem costP_small{t:Tp}{l:List Nat}{x:Pl}{m:Nat}(hx:x.allow.length<=4096)(h:Small m l):Small (m+1) (costP t l x):=by
 have h1:=sumB_le (rgD t.devs (enfD t x)) x.allow
 have h2:=costB_le (whoT t x.a x.b) (rgD t.devs (othD t x))
 intro v hv
 unfold costP at hv
 have:=addAt_small (addAt_small h) v hv
 omega
theorem small_zero(n:Nat):Small 0 (zeros n):=fun v hv=>by rw[zeros,List.mem_replicate]at hv;omega
structure PlOk1 (t:Tp) (l:List Pl) (i:Nat) (x:Pl):Prop where
 a0:0<=x.a
 a1:x.a<t.edges.length
 b0:0<=x.b
 b1:x.b<t.edges.length
 ne:x.a≠x.b
 al:x.allow≠[]
 set:setB x.allow=true
 ord:∀k y,i=k+1->l[k]? =some y->y.a<x.a\/(y.a=x.a/\y.b<x.b)
 sub:subB x.allow [whoT t x.a x.b]=true
structure PlsOk (t:Tp) (l:List Pl):Prop where
 comp:compB t=true
 all:∀i x,l[i]? =some x->PlOk1 t l i x
open Classical in
noncomputable def plsB(t:Tp)(l:List Pl):Bool:=decide (PlsOk t l)
theorem plsB_true{t:Tp}{l:List Pl}(h:PlsOk t l):plsB t l=true:=by simp[plsB,h]
theorem plsB_false{t:Tp}{l:List Pl}(h:¬PlsOk t l):plsB t l=false:=by simp[plsB,h]
theorem plsB_iff{t:Tp}{l:List Pl}:plsB t l=true↔PlsOk t l:=by simp[plsB]
theorem PlOk1.inn{t:Tp}{l:List Pl}{i:Nat}{x:Pl}(h:PlOk1 t l i x):PlIn t x:=⟨h.a0,h.a1,h.b0,h.b1,(setB_pset h.set).len⟩
def costsGo(t:Tp)(l:List Pl)(s:List Nat):List Nat:=l.foldl (costP t) s
noncomputable def costsP(t:Tp)(l:List Pl):List Nat:=if plsB t l=true then costsGo t l (zeros t.devs.length)else []
theorem costsGo_take{t:Tp}(ht:DevIn t):∀(l:List Pl) (s:List Nat),(∀x,x∈l->PlIn t x)->costsGo t l (s.take t.devs.length)=(costsGo t l s).take t.devs.length
 |[],s,_=>rfl
 |x::l,s,h=>by
  rw[costsGo,List.foldl_cons,<-costP_take ht (h x (by simp))]
  exact costsGo_take ht l _ fun y hy=>h y (List.mem_cons_of_mem _ hy)
theorem costsGo_len(t:Tp):∀(l:List Pl) (s:List Nat),(costsGo t l s).length=s.length
 |[],s=>rfl
 |x::l,s=>by rw[costsGo,List.foldl_cons];exact(costsGo_len t l _).trans (costP_len t s x)
theorem costsGo_succ{t:Tp}{l:List Pl}{s:List Nat}{k:Nat}{x:Pl}(h:l[k]? =some x):costsGo t (l.take (k+1)) s=costP t (costsGo t (l.take k) s) x:=by
 rw[List.take_add_one,h,costsGo,List.foldl_append];rfl
open Go Go.Vm Go.ChangeShapes Go.WideShapes Go.ChangeAt Go.RowKit
theorem wants_none{ts:List TypeId}(h:(ts.all fun t=>Tryz.prog.wantsStandIn t==false)=true){t:TypeId}(ht:t∈ts):Tryz.prog.wantsStandIn t=false:=by
 have:=List.all_eq_true.1 h t ht
 simpa using this
theorem ty_int{d:Nat}{x:AV}(h:Ty Tryz.prog (d+1) 3 x):∃i:Int,x=.v (.int .i64 i)/\ -9223372036854775808<=i/\i<=9223372036854775807:=h
theorem ty_rg{d:Nat}{y:AV}(h:Ty Tryz.prog (d+2) 66 y):∃r:Rg,y=encR r:=by
 obtain⟨ys,hl,rfl,hf⟩:=h
 match ys,hl with
 |[p,q],_=>
  obtain⟨i,rfl,i0,i1⟩:=hf 0 _ p rfl rfl
  obtain⟨j,rfl,j0,j1⟩:=hf 1 _ q rfl rfl
  exact⟨⟨i,j,i0,i1,j0,j1⟩,rfl⟩
theorem ty_bx{d:Nat}{y:AV}(h:Ty Tryz.prog (d+3) 68 y):∃b:Bx,y=encX b:=by
 obtain⟨ys,hl,rfl,hf⟩:=h
 match ys,hl with
 |[p0,p1,p2,p3,p4],_=>
  obtain⟨r0,rfl⟩:=ty_rg (d:=d) (hf p0 (by simp))
  obtain⟨r1,rfl⟩:=ty_rg (d:=d) (hf p1 (by simp))
  obtain⟨r2,rfl⟩:=ty_rg (d:=d) (hf p2 (by simp))
  obtain⟨r3,rfl⟩:=ty_rg (d:=d) (hf p3 (by simp))
  obtain⟨r4,rfl⟩:=ty_rg (d:=d) (hf p4 (by simp))
  exact⟨⟨r0,r1,r2,r3,r4⟩,rfl⟩
theorem ty_set{d:Nat}{y:AV}(h:Ty Tryz.prog (d+4) 24 y):∃l:List Bx,y=encXs l:=by
 obtain⟨xs,rfl,_,hx⟩:=h
 obtain⟨l,rfl⟩:=list_enc encX fun y hy=>ty_bx (d:=d) (hx y hy)
 exact⟨l,rfl⟩
theorem ty_insp{d:Nat}{y:AV}(h:Ty Tryz.prog (d+5) 103 y):∃x:Insp,y=encIn x:=by
 obtain⟨ys,hl,rfl,hf⟩:=h
 match ys,hl with
 |[p,q],_=>
  obtain⟨s,rfl,_⟩:=hf 0 _ p rfl rfl
  obtain⟨l,rfl⟩:=ty_set (d:=d) (hf 1 _ q rfl rfl)
  exact⟨⟨s,l⟩,rfl⟩
theorem ty_pol{d:Nat}{y:AV}(h:Ty Tryz.prog (d+7) 27 y):∃p:Pol,y=encPol p/\True:=by
 obtain⟨ys,hl,rfl,hf⟩:=h
 match ys,hl with
 |[p,q],_=>
  obtain⟨l,rfl⟩:=ty_set (d:=d+2) (hf 0 _ p rfl rfl)
  obtain⟨xs,rfl,_,hx⟩:=hf 1 _ q rfl rfl
  obtain⟨m,rfl⟩:=list_enc encIn fun y hy=>ty_insp (d:=d) (hx y hy)
  exact⟨⟨l,m⟩,rfl,trivial⟩
theorem ty_pls{d:Nat}{y:AV}(h:Ty Tryz.prog (d+6) 45 y):∃l:List Pl,y=.lst (l.map encPl)/\True:=by
 obtain⟨xs,rfl,_,hx⟩:=h
 obtain⟨l,rfl⟩:=list_enc encPl fun y hy=>by
  obtain⟨ys,hl,rfl,hf⟩:=hx y hy
  match ys,hl with
  |[a,b,c,e],_=>
   obtain⟨a,rfl,_⟩:=hf 0 _ a rfl rfl
   obtain⟨b,rfl,_⟩:=hf 1 _ b rfl rfl
   obtain⟨c,rfl⟩:=hf 2 _ c rfl rfl
   obtain⟨e,rfl⟩:=ty_set (d:=d) (hf 3 _ e rfl rfl)
   exact⟨⟨a,b,c,e⟩,rfl⟩
 exact⟨l,rfl,trivial⟩
noncomputable def glAgr:Ctx:={N:=44,plan:=at1 3 (some (ln [1,3,4,7,9,11,13,15,17,19,21,23,27,29,31,24,32,35,37,39])) (fun _=>none)}
noncomputable def blAgr:Code:=bdy Tryz.f11
abbrev oflAgr:=@ofC Tryz.prog glAgr 11 Tryz.f11 blAgr Tryz.func11 (by kernel_rfl) (by kernel_rfl) (by kernel_rfl) (by kernel_rfl)
noncomputable def glAgree:Ctx:={N:=60,own:=at1 9 (true) (at1 10 (true) (at1 12 (true) (at1 13 (true) (at1 14 (true) (fun _=>false))))),plan:=at1 6 (some (.one 1 true (.one 2 true (.one 4 true (.one 7 true (.wch 0 (.one 3 false (.one 5 false (.one 6 true (.one 8 false (.one 9 true (.one 10 false (.one 11 true (.one 12 true (.one 13 true (.one 14 true (.one 16 true (.alt 15 (.one 17 true (.one 18 false (.one 19 false (.one 20 true (.one 21 true (.done)))))) (.alt 17 (.one 15 false (.one 18 false (.one 19 false (.one 20 true (.one 21 true (.done)))))) (.stop)))))))))))))))))))) (at1 10 (some (ln [3,5,7,0,8,11,12,15,17])) (fun _=>none)),hints:=at1 6 ([.freezeB 11]) (fun _=>[])}
noncomputable def blAgree:Code:=bdy Tryz.f3
abbrev oflAgree:=@ofC Tryz.prog glAgree 3 Tryz.f3 blAgree Tryz.func3 (by kernel_rfl) (by kernel_rfl) (by kernel_rfl) (by kernel_rfl)
noncomputable def glCo:Ctx:={N:=21,plan:=at1 1 (some (ln [1,3,7,9,4,10,13,15,17,19,23,25,20,26,28,31,33])) (fun _=>none)}
noncomputable def blCo:Code:=bdy Tryz.f20
abbrev oflCo:=@ofC Tryz.prog glCo 20 Tryz.f20 blCo Tryz.func20 (by kernel_rfl) (by kernel_rfl) (by kernel_rfl) (by kernel_rfl)
noncomputable def glSpl:Ctx:={N:=100,np:=1,own:=at1 13 (true) (at1 48 (true) (at1 49 (true) (fun _=>false))),plan:=at1 14 (some (.one 0 true (.one 1 true (.one 2 true (.one 4 true (.one 5 true (.one 6 true (.one 7 true (.one 8 true (.one 12 true (.wch 9 (.one 3 false (.one 10 false (.alt 11 (.one 13 false (.one 14 true (.one 15 true (.one 16 true (.one 17 true (.one 18 false (.done))))))) (.alt 13 (.one 11 false (.one 14 true (.one 15 true (.one 16 true (.one 17 true (.one 18 false (.done))))))) (.stop)))))))))))))))) (at1 6 (some (ln [1,3,5,7,9,11,13,14,17])) (fun _=>none))}
noncomputable def blSpl:Code:=bdy Tryz.f19
abbrev oflSpl:=@ofC Tryz.prog glSpl 19 Tryz.f19 blSpl Tryz.func19 (by kernel_rfl) (by kernel_rfl) (by kernel_rfl) (by kernel_rfl)
noncomputable def glCosts:Ctx:={N:=80,own:=at1 9 (true) (at1 10 (true) (at1 12 (true) (at1 14 (true) (at1 19 (true) (fun _=>false))))),plan:=at1 6 (some (.one 1 true (.one 2 true (.wch 0 (.one 3 false (.one 4 false (.one 5 true (.one 6 true (.one 7 true (.one 8 true (.one 9 true (.done)))))))))))) (at1 8 (some (.one 0 true (.one 1 true (.one 2 false (.one 3 true (.one 4 true (.one 5 true (.one 6 true (.one 7 false (.one 8 true (.one 9 true (.one 10 true (.one 12 true (.one 13 true (.alt 11 (.one 14 false (.one 15 false (.one 16 true (.one 17 true (.one 18 true (.one 19 true (.one 20 true (.one 22 true (.one 21 false (.one 23 false (.one 24 true (.one 25 true (.done))))))))))))) (.alt 14 (.one 11 true (.one 15 false (.one 16 true (.one 17 true (.one 18 true (.one 19 true (.one 20 true (.one 22 true (.one 21 false (.one 23 false (.one 24 true (.one 25 true (.done))))))))))))) (.stop))))))))))))))))) (fun _=>none)),hints:=at1 6 ([.freezeB 7]) (fun _=>[])}
noncomputable def blCosts:Code:=bdy Tryz.f4
abbrev oflCosts:=@ofC Tryz.prog glCosts 4 Tryz.f4 blCosts Tryz.func4 (by kernel_rfl) (by kernel_rfl) (by kernel_rfl) (by kernel_rfl)
noncomputable def gnStm:Ctx:={N:=92,np:=2,own:=at1 13 (true) (at1 129 (true) (fun _=>false)),plan:=at1 1 (some (.one 0 true (.one 3 true (.one 4 true (.one 7 true (.one 8 true (.one 11 true (.one 12 true (.wch 5 (.wch 9 (.wch 13 (.alt 1 (.one 2 true (.alt 6 (.alt 10 (.alt 14 (.one 15 true (.one 16 false (.one 17 false (.done)))) (.alt 16 (.one 14 false (.one 15 true (.one 17 false (.done)))) (.stop))) (.alt 16 (.one 10 false (.one 14 false (.one 15 true (.one 17 false (.done))))) (.stop))) (.alt 16 (.one 6 false (.one 10 false (.one 14 false (.one 15 true (.one 17 false (.done)))))) (.stop)))) (.alt 16 (.one 1 false (.one 2 true (.one 6 false (.one 10 false (.one 14 false (.one 15 true (.one 17 false (.done)))))))) (.stop)))))))))))))) (at1 3 (some (.one 0 true (.one 1 true (.one 2 true (.one 4 true (.one 5 true (.one 8 true (.wch 6 (.one 3 false (.one 7 false (.one 9 false (.one 10 true (.one 11 false (.one 12 true (.one 13 false (.done)))))))))))))))) (at1 8 (some (.one 0 true (.one 2 true (.one 3 true (.one 4 true (.one 5 true (.wch 1 (.one 6 false (.one 7 true (.one 8 true (.one 9 true (.one 10 true (.one 11 false (.done)))))))))))))) (fun _=>none))),cut:=at1 4 (true) (at1 7 (true) (at1 9 (true) (fun _=>false)))}
noncomputable def bnStm:Code:=bdy Tryz.f82
abbrev ofnStm:=@ofC Tryz.prog gnStm 82 Tryz.f82 bnStm Tryz.func82 (by kernel_rfl) (by kernel_rfl) (by kernel_rfl) (by kernel_rfl)
noncomputable def gnInt:Ctx:={N:=260,np:=1,own:=at1 13 (true) (at1 44 (true) (at1 80 (true) (at1 81 (true) (at1 82 (true) (at1 69 (true) (fun _=>false)))))),plan:=at1 36 (some (.one 0 true (.one 2 true (.wch 1 (.one 3 false (.one 4 true (.one 5 false (.one 6 false (.one 7 true (.one 8 false (.done))))))))))) (at1 40 (some (.one 0 true (.one 2 true (.one 3 true (.one 4 true (.wch 1 (.one 5 false (.one 6 false (.one 7 false (.one 8 true (.one 9 false (.done)))))))))))) (at1 43 (some (.one 0 true (.one 3 true (.one 7 true (.one 10 true (.one 15 true (.one 17 true (.wch 1 (.wch 11 (.one 12 true (.one 13 true (.wch 14 (.wch 16 (.alt 2 (.one 4 false (.one 5 true (.wch 6 (.one 8 false (.one 9 true (.one 18 false (.one 19 true (.one 20 true (.one 21 false (.one 22 false (.one 23 true (.one 24 false (.done))))))))))))) (.alt 4 (.alt 2 (.one 5 true (.wch 6 (.one 8 false (.one 9 true (.one 18 false (.one 19 true (.one 20 true (.one 21 false (.one 22 false (.one 23 true (.one 24 false (.done)))))))))))) (.alt 8 (.one 9 true (.alt 2 (.one 5 true (.wch 6 (.one 18 false (.one 19 true (.one 20 true (.one 21 false (.one 22 false (.one 23 true (.one 24 false (.done)))))))))) (.alt 18 (.one 19 true (.one 2 false (.one 5 true (.one 6 true (.one 20 true (.one 21 false (.one 22 false (.one 23 true (.one 24 false (.done)))))))))) (.stop)))) (.stop))) (.stop)))))))))))))))) (at1 46 (some (.one 0 true (.one 2 true (.one 4 true (.one 8 true (.wch 1 (.wch 3 (.one 5 true (.one 6 true (.wch 7 (.one 9 false (.one 10 true (.one 11 true (.one 12 true (.one 13 true (.one 14 false (.one 15 false (.one 16 true (.one 17 false (.done)))))))))))))))))))) (fun _=>none)))),hints:=at1 2 ([.virtB 7 0 2,.virtB 7 1 2,.virtB 7 2 2]) (at1 6 ([.virtB 9 1 7]) (at1 16 ([.freezeB 9]) (at1 21 ([.virtB 14 1 7]) (at1 34 ([.freezeB 14]) (at1 37 ([.freezeB 7,.virtB 7 3 10]) (at1 41 ([.virtB 7 4 6,.virtB 7 5 5]) (fun _=>[]))))))),cut:=at1 13 (true) (at1 15 (true) (at1 31 (true) (at1 33 (true) (at1 37 (true) (at1 44 (true) (at1 47 (true) (fun _=>false)))))))}
noncomputable def bnInt:Code:=bdy Tryz.f36
abbrev ofnInt:=@ofC Tryz.prog gnInt 36 Tryz.f36 bnInt Tryz.func36 (by kernel_rfl) (by kernel_rfl) (by kernel_rfl) (by kernel_rfl)
noncomputable def gnPol:Ctx:={N:=79,np:=1,own:=at1 13 (true) (at1 36 (true) (at1 37 (true) (at1 40 (true) (at1 41 (true) (fun _=>false))))),plan:=at1 1 (some (.one 1 true (.one 2 true (.one 4 true (.wch 0 (.alt 3 (.alt 5 (.alt 6 (.one 7 true (.one 8 true (.one 9 true (.one 10 false (.one 11 false (.one 12 true (.done))))))) (.alt 10 (.one 6 false (.one 7 true (.one 8 true (.one 9 true (.one 11 false (.one 12 true (.done))))))) (.stop))) (.alt 10 (.one 5 false (.one 6 false (.one 7 true (.one 8 true (.one 9 true (.one 11 false (.one 12 true (.done)))))))) (.stop))) (.alt 10 (.one 3 false (.one 5 false (.one 6 false (.one 7 true (.one 8 true (.one 9 true (.one 11 false (.one 12 true (.done))))))))) (.stop)))))))) (at1 7 (some (.one 0 true (.one 2 true (.wch 1 (.one 3 false (.one 4 false (.one 5 false (.one 6 true (.one 7 true (.one 8 true (.one 9 true (.one 10 true (.done))))))))))))) (fun _=>none)),cut:=at1 6 (true) (fun _=>false)}
noncomputable def bnPol:Code:=bdy Tryz.f12
abbrev ofnPol:=@ofC Tryz.prog gnPol 12 Tryz.f12 bnPol Tryz.func12 (by kernel_rfl) (by kernel_rfl) (by kernel_rfl) (by kernel_rfl)
noncomputable def gh18Real:Ctx:={N:=49,hints:=at1 4 ([.virt 4 10]) (fun _=>[])}
noncomputable def bh18Real:Code:=bdy Tryz.f38
abbrev ofh18Real:=@ofC Tryz.prog gh18Real 38 Tryz.f38 bh18Real Tryz.func38 (by kernel_rfl) (by kernel_rfl) (by kernel_rfl) (by kernel_rfl)
noncomputable def gh18Act:Ctx:={N:=35}
noncomputable def bh18Act:Code:=bdy Tryz.f126
abbrev ofh18Act:=@ofC Tryz.prog gh18Act 126 Tryz.f126 bh18Act Tryz.func126 (by kernel_rfl) (by kernel_rfl) (by kernel_rfl) (by kernel_rfl)
noncomputable def gh18Ord:Ctx:={N:=49,hints:=at1 4 ([.virt 5 1]) (fun _=>[])}
noncomputable def bh18Ord:Code:=bdy Tryz.f75
abbrev ofh18Ord:=@ofC Tryz.prog gh18Ord 75 Tryz.f75 bh18Ord Tryz.func75 (by kernel_rfl) (by kernel_rfl) (by kernel_rfl) (by kernel_rfl)
noncomputable def gh18Put:Ctx:={N:=82,plan:=at1 7 (some (.one 1 true (.one 2 true (.one 3 true (.one 5 true (.one 6 true (.one 7 true (.one 10 true (.one 11 true (.one 12 true (.alt 0 (.alt 4 (.one 8 false (.one 9 false (.one 13 false (.one 14 true (.one 15 true (.done)))))) (.alt 8 (.one 4 false (.one 9 false (.one 13 false (.one 14 true (.one 15 true (.done)))))) (.stop))) (.alt 8 (.one 0 false (.one 4 false (.one 9 false (.one 13 false (.one 14 true (.one 15 true (.done))))))) (.stop))))))))))))) (fun _=>none)}
noncomputable def bh18Put:Code:=bdy Tryz.f79
abbrev ofh18Put:=@ofC Tryz.prog gh18Put 79 Tryz.f79 bh18Put Tryz.func79 (by kernel_rfl) (by kernel_rfl) (by kernel_rfl) (by kernel_rfl)
noncomputable def gh18At:Ctx:={N:=129,plan:=at1 16 (some (ln [1,3,5,7,9,11,13,15,16,18])) (at1 17 (some (ln [1,3,5,7,9,11,12,15,17,19,21,23])) (fun _=>none)),cut:=at1 24 (true) (at1 26 (true) (fun _=>false))}
noncomputable def bh18At:Code:=bdy Tryz.f35
abbrev ofh18At:=@ofC Tryz.prog gh18At 35 Tryz.f35 bh18At Tryz.func35 (by kernel_rfl) (by kernel_rfl) (by kernel_rfl) (by kernel_rfl)
noncomputable def gh17Has:Ctx:={N:=18}
noncomputable def bh17Has:Code:=bdy Tryz.f218
abbrev ofh17Has:=@ofC Tryz.prog gh17Has 218 Tryz.f218 bh17Has Tryz.func218 (by kernel_rfl) (by kernel_rfl) (by kernel_rfl) (by kernel_rfl)
noncomputable def gh17Fol:Ctx:={N:=103,np:=3,own:=at1 205 (true) (fun _=>false),plan:=at1 13 (some (ln [1,3,5,7,9,11,12,14,17,19,20])) (at1 14 (some (ln [1,3,5,7,9,11,12,15])) (fun _=>none)),hints:=at1 1 ([.renewB 0 1,.renewB 0 2]) (at1 6 ([.freeze 3]) (fun _=>[])),cut:=at1 13 (true) (fun _=>false),out:=true,lend:=at1 218 (true) (fun _=>false)}
noncomputable def bh17Fol:Code:=bdy Tryz.f205
abbrev ofh17Fol:=@ofC Tryz.prog gh17Fol 205 Tryz.f205 bh17Fol Tryz.func205 (by kernel_rfl) (by kernel_rfl) (by kernel_rfl) (by kernel_rfl)
noncomputable def gh17Find:Ctx:={N:=28,own:=at1 205 (true) (fun _=>false),hints:=at1 5 ([.virtB 9 1 1,.virtB 9 2 7]) (fun _=>[])}
noncomputable def bh17Find:Code:=bdy Tryz.f172
abbrev ofh17Find:=@ofC Tryz.prog gh17Find 172 Tryz.f172 bh17Find Tryz.func172 (by kernel_rfl) (by kernel_rfl) (by kernel_rfl) (by kernel_rfl)
noncomputable def gh17Edg:Ctx:={N:=33,plan:=at1 5 (some (.one 0 true (.one 1 true (.one 2 true (.one 3 true (.one 4 true (.one 5 true (.one 6 true (.one 7 true (.one 8 true (.alt 9 (.one 10 true (.one 11 true (.one 12 true (.one 13 false (.one 14 false (.one 15 true (.done))))))) (.alt 13 (.one 9 false (.one 10 true (.one 11 true (.one 12 true (.one 14 false (.one 15 true (.done))))))) (.stop))))))))))))) (fun _=>none),hints:=at1 2 ([.virt 5 2]) (fun _=>[])}
noncomputable def bh17Edg:Code:=bdy Tryz.f170
abbrev ofh17Edg:=@ofC Tryz.prog gh17Edg 170 Tryz.f170 bh17Edg Tryz.func170 (by kernel_rfl) (by kernel_rfl) (by kernel_rfl) (by kernel_rfl)
noncomputable def gh17All:Ctx:={N:=17,hints:=at1 2 ([.virt 3 1]) (fun _=>[])}
noncomputable def bh17All:Code:=bdy Tryz.f171
abbrev ofh17All:=@ofC Tryz.prog gh17All 171 Tryz.f171 bh17All Tryz.func171 (by kernel_rfl) (by kernel_rfl) (by kernel_rfl) (by kernel_rfl)
noncomputable def gh17Grp:Ctx:={N:=78,plan:=at1 4 (some (ln [1,3,4,6,8,11,13])) (at1 13 (some (ln [1,3,5,7,9,11,13,15,16,18,20,23])) (fun _=>none)),hints:=at1 9 ([.virt 10 2]) (fun _=>[])}
noncomputable def bh17Grp:Code:=bdy Tryz.f122
abbrev ofh17Grp:=@ofC Tryz.prog gh17Grp 122 Tryz.f122 bh17Grp Tryz.func122 (by kernel_rfl) (by kernel_rfl) (by kernel_rfl) (by kernel_rfl)
noncomputable def gh17Hdr:Ctx:={N:=26,plan:=at1 4 (some (.one 1 true (.alt 0 (.one 2 false (.one 3 false (.one 4 true (.one 5 true (.one 6 true (.one 7 true (.one 8 true (.done)))))))) (.alt 2 (.one 0 false (.one 3 false (.one 4 true (.one 5 true (.one 6 true (.one 7 true (.one 8 true (.done)))))))) (.stop))))) (fun _=>none)}
noncomputable def bh17Hdr:Code:=bdy Tryz.f174
abbrev ofh17Hdr:=@ofC Tryz.prog gh17Hdr 174 Tryz.f174 bh17Hdr Tryz.func174 (by kernel_rfl) (by kernel_rfl) (by kernel_rfl) (by kernel_rfl)
noncomputable def gh17Svc:Ctx:={N:=47,hints:=at1 9 ([.asL 8]) (fun _=>[])}
noncomputable def bh17Svc:Code:=bdy Tryz.f123
abbrev ofh17Svc:=@ofC Tryz.prog gh17Svc 123 Tryz.f123 bh17Svc Tryz.func123 (by kernel_rfl) (by kernel_rfl) (by kernel_rfl) (by kernel_rfl)
noncomputable def gh17Btw:Ctx:={N:=41,plan:=at1 9 (some (.one 0 true (.one 1 true (.one 2 true (.one 3 true (.one 4 true (.one 5 true (.one 6 true (.one 8 true (.alt 7 (.one 9 false (.one 10 true (.one 11 false (.done)))) (.alt 9 (.one 7 true (.one 10 true (.one 11 false (.done)))) (.stop)))))))))))) (fun _=>none),hints:=at1 2 ([.virt 6 10]) (fun _=>[])}
noncomputable def bh17Btw:Code:=bdy Tryz.f127
abbrev ofh17Btw:=@ofC Tryz.prog gh17Btw 127 Tryz.f127 bh17Btw Tryz.func127 (by kernel_rfl) (by kernel_rfl) (by kernel_rfl) (by kernel_rfl)
noncomputable def gh17Stm:Ctx:={N:=132}
noncomputable def bh17Stm:Code:=bdy Tryz.f76
abbrev ofh17Stm:=@ofC Tryz.prog gh17Stm 76 Tryz.f76 bh17Stm Tryz.func76 (by kernel_rfl) (by kernel_rfl) (by kernel_rfl) (by kernel_rfl)
noncomputable def gh17Cls:Ctx:={N:=21}
noncomputable def bh17Cls:Code:=bdy Tryz.f124
abbrev ofh17Cls:=@ofC Tryz.prog gh17Cls 124 Tryz.f124 bh17Cls Tryz.func124 (by kernel_rfl) (by kernel_rfl) (by kernel_rfl) (by kernel_rfl)
noncomputable def gh17Chk:Ctx:={N:=162,plan:=at1 6 (some (ln [1,3,5,7,9,11,13,15,16,19,21,23,25,27])) (at1 12 (some (ln [1,3,5,7,9,11,13,14,17,19,21,23,25])) (at1 27 (some (ln [1,3,5,7,9,11,13,14,17])) (at1 32 (some (ln [1,3,5,7,9,11,13,14,17])) (at1 34 (some (ln [1,3,5,7,9,11,13,15,16,19,21,23,25,27])) (fun _=>none)))))}
noncomputable def bh17Chk:Code:=bdy Tryz.f74
abbrev ofh17Chk:=@ofC Tryz.prog gh17Chk 74 Tryz.f74 bh17Chk Tryz.func74 (by kernel_rfl) (by kernel_rfl) (by kernel_rfl) (by kernel_rfl)
noncomputable def gh11Zone:Ctx:={N:=27,hints:=at1 2 ([.virt 5 1]) (fun _=>[])}
noncomputable def bh11Zone:Code:=bdy Tryz.f173
abbrev ofh11Zone:=@ofC Tryz.prog gh11Zone 173 Tryz.f173 bh11Zone Tryz.func173 (by kernel_rfl) (by kernel_rfl) (by kernel_rfl) (by kernel_rfl)
noncomputable def gj16Opt:Ctx:={N:=9}
noncomputable def bj16Opt:Code:=bdy Tryz.f168
abbrev ofj16Opt:=@ofC Tryz.prog gj16Opt 168 Tryz.f168 bj16Opt Tryz.func168 (by kernel_rfl) (by kernel_rfl) (by kernel_rfl) (by kernel_rfl)
noncomputable def gj16Port:Ctx:={N:=9}
noncomputable def bj16Port:Code:=bdy Tryz.f120
abbrev ofj16Port:=@ofC Tryz.prog gj16Port 120 Tryz.f120 bj16Port Tryz.func120 (by kernel_rfl) (by kernel_rfl) (by kernel_rfl) (by kernel_rfl)
noncomputable def gj16Ports:Ctx:={N:=21}
noncomputable def bj16Ports:Code:=bdy Tryz.f121
abbrev ofj16Ports:=@ofC Tryz.prog gj16Ports 121 Tryz.f121 bj16Ports Tryz.func121 (by kernel_rfl) (by kernel_rfl) (by kernel_rfl) (by kernel_rfl)
noncomputable def gj16Find:Ctx:={N:=20}
noncomputable def bj16Find:Code:=bdy Tryz.f164
abbrev ofj16Find:=@ofC Tryz.prog gj16Find 164 Tryz.f164 bj16Find Tryz.func164 (by kernel_rfl) (by kernel_rfl) (by kernel_rfl) (by kernel_rfl)
noncomputable def gj16FindW:Ctx:={N:=20}
noncomputable def bj16FindW:Code:=bdy Tryz.f117
abbrev ofj16FindW:=@ofC Tryz.prog gj16FindW 117 Tryz.f117 bj16FindW Tryz.func117 (by kernel_rfl) (by kernel_rfl) (by kernel_rfl) (by kernel_rfl)
noncomputable def gj16Item:Ctx:={N:=97}
noncomputable def bj16Item:Code:=bdy Tryz.f165
abbrev ofj16Item:=@ofC Tryz.prog gj16Item 165 Tryz.f165 bj16Item Tryz.func165 (by kernel_rfl) (by kernel_rfl) (by kernel_rfl) (by kernel_rfl)
noncomputable def gj16Defs:Ctx:={N:=73}
noncomputable def bj16Defs:Code:=bdy Tryz.f116
abbrev ofj16Defs:=@ofC Tryz.prog gj16Defs 116 Tryz.f116 bj16Defs Tryz.func116 (by kernel_rfl) (by kernel_rfl) (by kernel_rfl) (by kernel_rfl)
noncomputable def gj16Wri:Ctx:={N:=11}
noncomputable def bj16Wri:Code:=bdy Tryz.f118
abbrev ofj16Wri:=@ofC Tryz.prog gj16Wri 118 Tryz.f118 bj16Wri Tryz.func118 (by kernel_rfl) (by kernel_rfl) (by kernel_rfl) (by kernel_rfl)
noncomputable def gj16Sm:Ctx:={N:=74}
noncomputable def bj16Sm:Code:=bdy Tryz.f119
abbrev ofj16Sm:=@ofC Tryz.prog gj16Sm 119 Tryz.f119 bj16Sm Tryz.func119 (by kernel_rfl) (by kernel_rfl) (by kernel_rfl) (by kernel_rfl)
noncomputable def gj16Val:Ctx:={N:=161,plan:=at1 6 (some (ln [1,3,5,7,9,11,12,15,17,19,21,23,25,27,29,31,33,37,34,39,41,43,45,47,49,51,53,55,56,59,61])) (fun _=>none)}
noncomputable def bj16Val:Code:=bdy Tryz.f73
abbrev ofj16Val:=@ofC Tryz.prog gj16Val 73 Tryz.f73 bj16Val Tryz.func73 (by kernel_rfl) (by kernel_rfl) (by kernel_rfl) (by kernel_rfl)
noncomputable def gq1Num:Ctx:={N:=20,plan:=at1 3 (some (.one 0 true (.one 1 true (.one 3 true (.one 4 true (.one 5 true (.one 6 true (.alt 2 (.one 7 false (.one 8 false (.one 9 true (.one 10 true (.done))))) (.alt 7 (.alt 2 (.one 8 false (.one 9 true (.one 10 true (.done)))) (.alt 8 (.one 2 false (.one 9 true (.one 10 true (.done)))) (.stop))) (.stop)))))))))) (fun _=>none)}
noncomputable def bq1Num:Code:=bdy Tryz.f223
abbrev ofq1Num:=@ofC Tryz.prog gq1Num 223 Tryz.f223 bq1Num Tryz.func223 (by kernel_rfl) (by kernel_rfl) (by kernel_rfl) (by kernel_rfl)
noncomputable def gq1Parts:Ctx:={N:=35,hints:=at1 2 ([.virt 5 1]) (fun _=>[])}
noncomputable def bq1Parts:Code:=bdy Tryz.f207
abbrev ofq1Parts:=@ofC Tryz.prog gq1Parts 207 Tryz.f207 bq1Parts Tryz.func207 (by kernel_rfl) (by kernel_rfl) (by kernel_rfl) (by kernel_rfl)
noncomputable def gq9Days:Ctx:={N:=2}
noncomputable def bq9Days:Code:=bdy Tryz.f202
abbrev ofq9Days:=@ofC Tryz.prog gq9Days 202 Tryz.f202 bq9Days Tryz.func202 (by kernel_rfl) (by kernel_rfl) (by kernel_rfl) (by kernel_rfl)
noncomputable def gq9Day:Ctx:={N:=19}
noncomputable def bq9Day:Code:=bdy Tryz.f208
abbrev ofq9Day:=@ofC Tryz.prog gq9Day 208 Tryz.f208 bq9Day Tryz.func208 (by kernel_rfl) (by kernel_rfl) (by kernel_rfl) (by kernel_rfl)
noncomputable def gq9Two:Ctx:={N:=36,plan:=at1 3 (some (ln [1,3,5,7,9,11,13,15,17,19,21])) (fun _=>none)}
noncomputable def bq9Two:Code:=bdy Tryz.f219
abbrev ofq9Two:=@ofC Tryz.prog gq9Two 219 Tryz.f219 bq9Two Tryz.func219 (by kernel_rfl) (by kernel_rfl) (by kernel_rfl) (by kernel_rfl)
noncomputable def gq9Clock:Ctx:={N:=39,plan:=at1 5 (some (ln [1,3,7,9,4,10,13,15])) (fun _=>none)}
noncomputable def bq9Clock:Code:=bdy Tryz.f209
abbrev ofq9Clock:=@ofC Tryz.prog gq9Clock 209 Tryz.f209 bq9Clock Tryz.func209 (by kernel_rfl) (by kernel_rfl) (by kernel_rfl) (by kernel_rfl)
noncomputable def gq9Span:Ctx:={N:=32,plan:=at1 4 (some (ln [1,3,5,9,11,13,15,17,19,6,20,23,25])) (fun _=>none)}
noncomputable def bq9Span:Code:=bdy Tryz.f176
abbrev ofq9Span:=@ofC Tryz.prog gq9Span 176 Tryz.f176 bq9Span Tryz.func176 (by kernel_rfl) (by kernel_rfl) (by kernel_rfl) (by kernel_rfl)
noncomputable def gq9Times:Ctx:={N:=29,plan:=at1 4 (some (ln [1,3,5,9,11,13,6,14,17,19])) (fun _=>none)}
noncomputable def bq9Times:Code:=bdy Tryz.f177
abbrev ofq9Times:=@ofC Tryz.prog gq9Times 177 Tryz.f177 bq9Times Tryz.func177 (by kernel_rfl) (by kernel_rfl) (by kernel_rfl) (by kernel_rfl)
noncomputable def gq9Parse:Ctx:={N:=96,hints:=at1 6 ([.virt 4 2]) (fun _=>[])}
noncomputable def bq9Parse:Code:=bdy Tryz.f128
abbrev ofq9Parse:=@ofC Tryz.prog gq9Parse 128 Tryz.f128 bq9Parse Tryz.func128 (by kernel_rfl) (by kernel_rfl) (by kernel_rfl) (by kernel_rfl)
noncomputable def gq9Pad:Ctx:={N:=10}
noncomputable def bq9Pad:Code:=bdy Tryz.f217
abbrev ofq9Pad:=@ofC Tryz.prog gq9Pad 217 Tryz.f217 bq9Pad Tryz.func217 (by kernel_rfl) (by kernel_rfl) (by kernel_rfl) (by kernel_rfl)
noncomputable def gq9Text:Ctx:={N:=11}
noncomputable def bq9Text:Code:=bdy Tryz.f203
abbrev ofq9Text:=@ofC Tryz.prog gq9Text 203 Tryz.f203 bq9Text Tryz.func203 (by kernel_rfl) (by kernel_rfl) (by kernel_rfl) (by kernel_rfl)
noncomputable def gq9Win:Ctx:={N:=5}
noncomputable def bq9Win:Code:=bdy Tryz.f166
abbrev ofq9Win:=@ofC Tryz.prog gq9Win 166 Tryz.f166 bq9Win Tryz.func166 (by kernel_rfl) (by kernel_rfl) (by kernel_rfl) (by kernel_rfl)
noncomputable def gq9Form:Ctx:={N:=70,plan:=at1 16 (some (ln [1,5,11,13,15,17,19,21,23,25,31,33,35,37,39,41,43,45,47,2,7,9,26,29,48,51,52,54,57])) (fun _=>none),hints:=at1 6 ([.virt 3 1]) (fun _=>[]),cut:=at1 16 (true) (fun _=>false)}
noncomputable def bq9Form:Code:=bdy Tryz.f167
abbrev ofq9Form:=@ofC Tryz.prog gq9Form 167 Tryz.f167 bq9Form Tryz.func167 (by kernel_rfl) (by kernel_rfl) (by kernel_rfl) (by kernel_rfl)
noncomputable def gq9Act:Ctx:={N:=17}
noncomputable def bq9Act:Code:=bdy Tryz.f175
abbrev ofq9Act:=@ofC Tryz.prog gq9Act 175 Tryz.f175 bq9Act Tryz.func175 (by kernel_rfl) (by kernel_rfl) (by kernel_rfl) (by kernel_rfl)
noncomputable def gnWin:Ctx:={N:=47,np:=1,own:=at1 13 (true) (fun _=>false),plan:=at1 3 (some (.one 0 true (.one 1 true (.one 5 true (.one 6 true (.one 2 false (.one 3 true (.wch 4 (.one 7 false (.one 8 true (.one 9 true (.one 10 false (.one 11 true (.done)))))))))))))) (at1 7 (some (.one 0 true (.one 1 true (.one 2 true (.one 6 true (.one 7 true (.one 3 false (.one 4 true (.wch 5 (.one 8 false (.one 9 true (.one 10 true (.one 11 false (.one 12 false (.one 13 true (.done)))))))))))))))) (fun _=>none))}
noncomputable def bnWin:Code:=bdy Tryz.f81
abbrev ofnWin:=@ofC Tryz.prog gnWin 81 Tryz.f81 bnWin Tryz.func81 (by kernel_rfl) (by kernel_rfl) (by kernel_rfl) (by kernel_rfl)
noncomputable def gnPick:Ctx:={N:=20,np:=1,own:=at1 13 (true) (fun _=>false)}
noncomputable def bnPick:Code:=bdy Tryz.f129
abbrev ofnPick:=@ofC Tryz.prog gnPick 129 Tryz.f129 bnPick Tryz.func129 (by kernel_rfl) (by kernel_rfl) (by kernel_rfl) (by kernel_rfl)
noncomputable def gnMin:Ctx:={N:=12,np:=1,own:=at1 13 (true) (fun _=>false)}
noncomputable def bnMin:Code:=bdy Tryz.f37
abbrev ofnMin:=@ofC Tryz.prog gnMin 37 Tryz.f37 bnMin Tryz.func37 (by kernel_rfl) (by kernel_rfl) (by kernel_rfl) (by kernel_rfl)
noncomputable def gnRange:Ctx:={N:=20,np:=1,own:=at1 69 (true) (fun _=>false)}
noncomputable def bnRange:Code:=bdy Tryz.f80
abbrev ofnRange:=@ofC Tryz.prog gnRange 80 Tryz.f80 bnRange Tryz.func80 (by kernel_rfl) (by kernel_rfl) (by kernel_rfl) (by kernel_rfl)
noncomputable def gnAdrs:Ctx:={N:=41,np:=1,own:=at1 13 (true) (at1 68 (true) (fun _=>false))}
noncomputable def bnAdrs:Code:=bdy Tryz.f89
abbrev ofnAdrs:=@ofC Tryz.prog gnAdrs 89 Tryz.f89 bnAdrs Tryz.func89 (by kernel_rfl) (by kernel_rfl) (by kernel_rfl) (by kernel_rfl)
noncomputable def gnBox:Ctx:={N:=46,np:=1,own:=at1 13 (true) (at1 80 (true) (at1 89 (true) (fun _=>false)))}
noncomputable def bnBox:Code:=bdy Tryz.f41
abbrev ofnBox:=@ofC Tryz.prog gnBox 41 Tryz.f41 bnBox Tryz.func41 (by kernel_rfl) (by kernel_rfl) (by kernel_rfl) (by kernel_rfl)
noncomputable def gnBoxes:Ctx:={N:=34,np:=1,own:=at1 13 (true) (at1 41 (true) (at1 87 (true) (fun _=>false))),hints:=at1 2 ([.virt 7 10]) (fun _=>[])}
noncomputable def bnBoxes:Code:=bdy Tryz.f40
abbrev ofnBoxes:=@ofC Tryz.prog gnBoxes 40 Tryz.f40 bnBoxes Tryz.func40 (by kernel_rfl) (by kernel_rfl) (by kernel_rfl) (by kernel_rfl)
noncomputable def gnSet:Ctx:={N:=15,np:=1,own:=at1 40 (true) (fun _=>false)}
noncomputable def bnSet:Code:=bdy Tryz.f48
abbrev ofnSet:=@ofC Tryz.prog gnSet 48 Tryz.f48 bnSet Tryz.func48 (by kernel_rfl) (by kernel_rfl) (by kernel_rfl) (by kernel_rfl)
noncomputable def gnSpB:Ctx:={N:=35,np:=1,own:=at1 13 (true) (fun _=>false),plan:=at1 5 (some (ln [1,3,5,7,9,11,13,15,17,19,21,23,24,27,29,30])) (fun _=>none)}
noncomputable def bnSpB:Code:=bdy Tryz.f87
abbrev ofnSpB:=@ofC Tryz.prog gnSpB 87 Tryz.f87 bnSpB Tryz.func87 (by kernel_rfl) (by kernel_rfl) (by kernel_rfl) (by kernel_rfl)
noncomputable def gnSpS:Ctx:={N:=80,np:=1,own:=at1 13 (true) (at1 41 (true) (at1 87 (true) (fun _=>false))),plan:=at1 12 (some (ln [1,3,5,7,9,11,13,15,17,19,21,22,25,26])) (at1 6 (some (ln [1,3,5,9,19,6,11,13,15,17,21,23,24])) (fun _=>none))}
noncomputable def bnSpS:Code:=bdy Tryz.f49
abbrev ofnSpS:=@ofC Tryz.prog gnSpS 49 Tryz.f49 bnSpS Tryz.func49 (by kernel_rfl) (by kernel_rfl) (by kernel_rfl) (by kernel_rfl)
noncomputable def gnHuB:Ctx:={N:=6}
noncomputable def bnHuB:Code:=bdy Tryz.f15
abbrev ofnHuB:=@ofC Tryz.prog gnHuB 15 Tryz.f15 bnHuB Tryz.func15 (by kernel_rfl) (by kernel_rfl) (by kernel_rfl) (by kernel_rfl)
theorem cano_ext2(op op':Bool->Bool->Bool):∀(k:Nat) (a b a' b':List Bx),k<=5->(∀p,InP p->op (memK p k a) (memK p k b)=op' (memK p k a') (memK p k b'))->cano op k a b=cano op' k a' b'
 |0,a,b,a',b',_,h=>by
  have h1:=h _ inP_zero
  rw[memK_zero,memK_zero,memK_zero,memK_zero]at h1
  rw[cano,cano,h1]
 |k+1,a,b,a',b',hk,h=>by
  have g:=cano_ginv op k a b (starts_cuts _ (topF_pos (4-k)).1)
  have g':=cano_ginv op' k a' b' (starts_cuts _ (topF_pos (4-k)).1)
  have part:∀v,0<=v->v<topF (4-k)+1->∀p,InP p->op (memK p k (atF (4-k) v a)) (memK p k (atF (4-k) v b))=op' (memK p k (atF (4-k) v a')) (memK p k (atF (4-k) v b')):=by
   intro v v0 v1 p hp
   have hq:InP (fun f=>if f=4-k then v else p f):=fun f=>by
    by_cases e:f=4-k
    ·simp only[e,if_true];omega
    ·simp only[e,if_false];exact hp f
   have h:=h _ hq
   rw[memK_succ,memK_succ,memK_succ,memK_succ,if_pos rfl]at h
   have e:∀c:List Bx,memK p k (atF (4-k) v c)=memK (fun f=>if f=4-k then v else p f) k (atF (4-k) v c):=fun c=>memK_congr (by omega) fun f hf h5=>by rw[if_neg (by omega)]
   rw[e,e,e,e,h]
  have hR:∀v,0<=v->v<topF (4-k)+1->restAt op k a b v=restAt op' k a' b' v:=fun v v0 v1=>
   cano_ext2 op op' k _ _ _ _ (by omega) (part v v0 v1)
  rw[cano_succ,cano_succ,(g.congr hR).same g']
theorem memK_nil{p:Nat->Int}{k:Nat}:memK p k []=false:=rfl
theorem cano_same(op:Bool->Bool->Bool)(a b:List Bx):cano orB 5 (cano op 5 a b) []=cano op 5 a b:=
 cano_ext2 orB op 5 _ _ _ _ (Nat.le_refl _) fun p hp=>by rw[cano_mem op hp 5 a b (Nat.le_refl _),memK_nil,orB,Bool.or_false]
theorem okL_bx{l:List Bx}(h:okL l):∀x,x∈l->x.ok:=fun x hx=>⟨h x hx 0 (by omega),h x hx 1 (by omega),h x hx 2 (by omega),h x hx 3 (by omega),h x hx 4 (by omega)⟩
theorem vld_all{l:List Bx}(h:okL l):vldB l=l:=List.filter_eq_self.2 fun x hx=>by simpa using okL_bx h x hx
theorem setB_cano{op:Bool->Bool->Bool}{a b:List Bx}(h:(cano op 5 a b).length<=4096):setB (cano op 5 a b)=true:=by
 have ho:=okL_cano op a b
 unfold setB
 rw[vld_all ho]
 simp only[Bool.and_eq_true,decide_eq_true_eq,true_and]
 refine⟨h,(canB_iff 5 _ (Nat.le_refl _) (fun x hx f hf _=>ho x hx f hf) (by omega)).2 ?_⟩
 rw[cano_same]
 exact((List.map_congr_left fun x _=>zeroTo_five x).trans (List.map_id _)).symm
theorem setB_nil:setB []=true:=by decide+kernel
theorem setB_lim(op:Bool->Bool->Bool)(a b:List Bx):setB (limP (cano op 5 a b))=true:=by
 unfold limP;split
 ·exact setB_nil
 ·exact setB_cano (by omega)
theorem setB_makeGo:∀(l s:List Bx),setB s=true->setB (makeGo s l).1=true
 |[],s,h=>h
 |b::l,s,h=>by
  rw[makeGo]
  split
  ·split
   ·exact setB_nil
   ·exact setB_makeGo l _ (setB_cano (by unfold addO at*;omega))
  ·exact setB_makeGo l s h
theorem setB_makeP(l:List Bx):setB (makeP l).1=true:=setB_makeGo l [] setB_nil
theorem setB_combP(op:Bool->Bool->Bool)(a b:List Bx):setB (combP op a b).1=true:=by
 unfold combP;split
 ·exact setB_nil
 ·split
  ·exact setB_nil
  ·exact setB_lim ..
theorem combP_mem{op:Bool->Bool->Bool}{a b:List Bx}(ha:setB a=true)(hb:setB b=true)(he:(combP op a b).2=0){p:Nat->Int}(hp:InP p):memK p 5 (combP op a b).1=op (memK p 5 a) (memK p 5 b):=by
 rw[combP_set ha hb]at he⊢
 simp only at he⊢
 have:(cano op 5 a b).length<=4096:=by
  have:=mt limE_ne.2 (fun h=>h he);omega
 rw[limP,if_neg (by omega),cano_mem op hp 5 a b (Nat.le_refl _)]
theorem combP_sub{op:Bool->Bool->Bool}{a b:List Bx}(ha:setB a=true)(hb:setB b=true){p:Nat->Int}(hp:InP p)(h:memK p 5 (combP op a b).1=true):op (memK p 5 a) (memK p 5 b)=true:=by
 rw[combP_set ha hb]at h
 simp only[limP]at h
 split at h
 ·rw[memK_nil]at h;cases h
 ·rwa[cano_mem op hp 5 a b (Nat.le_refl _)]at h
theorem vldB_cons(b:Bx)(l:List Bx):vldB (b::l)=if b.ok then b::vldB l else vldB l:=by
 unfold vldB
 by_cases h:b.ok
 ·rw[List.filter_cons_of_pos (by simpa using h),if_pos h]
 ·rw[List.filter_cons_of_neg (by simpa using h),if_neg h]
theorem makeGo_mem{p:Nat->Int}(hp:InP p):∀(l s:List Bx),memK p 5 (makeGo s l).1=true->memK p 5 s=true\/memK p 5 (vldB l)=true
 |[],s,h=>.inl h
 |b::l,s,h=>by
  rw[makeGo]at h
  rw[vldB_cons]
  have hb:memK p 5 (b::vldB l)=(inK p 5 b||memK p 5 (vldB l)):=rfl
  split at h
  ·rename_i ho
   rw[if_pos ho]
   split at h
   ·rw[memK_nil]at h;cases h
   ·rcases makeGo_mem hp l _ h with h1|h1
    ·rw[addO,cano_mem orB hp 5 _ _ (Nat.le_refl _)]at h1
     have e:memK p 5 [b]=inK p 5 b:=by simp[memK]
     rw[e]at h1
     simp only[orB,Bool.or_eq_true]at h1
     rcases h1 with h1|h1
     ·exact .inl h1
     ·exact .inr (by rw[hb,h1];rfl)
    ·exact .inr (by rw[hb,h1,Bool.or_true])
  ·rename_i ho
   rw[if_neg ho]
   exact makeGo_mem hp l _ h
theorem makeP_mem{p:Nat->Int}(hp:InP p){l:List Bx}(h:memK p 5 (makeP l).1=true):memK p 5 (vldB l)=true:=by
 rcases makeGo_mem hp l [] h with h1|h1
 ·rw[memK_nil]at h1;cases h1
 ·exact h1
theorem subB_of{a b:List Bx}(ha:okL a)(h:∀p,InP p->memK p 5 a=true->memK p 5 (vldB b)=true):subB a b=true:=by
 unfold subB
 rw[vld_all ha,(cano_sub a (vldB b)).2 h];rfl
/-! texts in their order -/
def ltS(s t:ByteArray):Bool:=Op.bytesLess s.toList t.toList
theorem bl_asymm:∀(a b:List UInt8),Op.bytesLess a b=true->Op.bytesLess b a=false/\(b==a)=false
 |_,[],h=>by simp[Op.bytesLess]at h
 |[],b::y,_=>by simp[Op.bytesLess]
 |a::x,b::y,h=>by
  simp only[Op.bytesLess,Bool.or_eq_true,Bool.and_eq_true,decide_eq_true_eq,beq_iff_eq]at h
  rcases h with h|⟨rfl,h⟩
  ·have h2:¬b<a:=fun h'=>absurd (UInt8.lt_trans h h') (UInt8.lt_irrefl _)
   have h3:b≠a:=fun e=>by subst e;exact UInt8.lt_irrefl _ h
   simp[Op.bytesLess,h2,h3]
  ·obtain⟨h1,h2⟩:=bl_asymm x y h
   simp only[beq_eq_false_iff_ne,ne_eq]at h2
   simp[Op.bytesLess,h1,h2,UInt8.lt_irrefl]
theorem bl_trans:∀(a b c:List UInt8),Op.bytesLess a b=true->Op.bytesLess b c=true->Op.bytesLess a c=true
 |_,_,[],_,h=>by simp[Op.bytesLess]at h
 |[],_,_::_,_,_=>by simp[Op.bytesLess]
 |_::_,[],_,h,_=>by simp[Op.bytesLess]at h
 |a::x,b::y,c::z,h,h'=>by
  simp only[Op.bytesLess,Bool.or_eq_true,Bool.and_eq_true,decide_eq_true_eq,beq_iff_eq]at h h'⊢
  rcases h with h|⟨rfl,h⟩<;>rcases h' with h'|⟨rfl,h'⟩
  ·exact .inl (UInt8.lt_trans h h')
  ·exact .inl h
  ·exact .inl h'
  ·exact .inr ⟨rfl,bl_trans x y z h h'⟩
theorem bl_total:∀(a b:List UInt8),Op.bytesLess a b=false->(a==b)=false->Op.bytesLess b a=true
 |[],[],_,h=>by simp at h
 |[],_::_,h,_=>by simp[Op.bytesLess]at h
 |_::_,[],_,_=>by simp[Op.bytesLess]
 |a::x,b::y,h,h'=>by
  simp only[Op.bytesLess,Bool.or_eq_false_iff,Bool.and_eq_false_iff,decide_eq_false_iff_not,beq_eq_false_iff_ne,ne_eq]at h
  simp only[Op.bytesLess,Bool.or_eq_true,Bool.and_eq_true,decide_eq_true_eq,beq_iff_eq]
  obtain⟨h1,h2⟩:=h
  by_cases e:a=b
  ·subst e
   refine .inr ⟨rfl,bl_total x y ?_ ?_⟩
   ·rcases h2 with h2|h2
    ·exact absurd rfl h2
    ·simpa using h2
   ·simpa using h'
  ·refine .inl ?_
   have h1':¬a.toNat<b.toNat:=fun h=>h1 (UInt8.lt_iff_toNat_lt.2 h)
   have:a.toNat≠b.toNat:=fun h=>e (UInt8.toNat_inj.1 h)
   exact UInt8.lt_iff_toNat_lt.2 (by omega)
/-! the policy of an intent, step by step -/
def realM(t:Tp)(q:Nat->Int):Prop:=memK q 5 (vldB (pairsB t.edges))=true/\memK q 5 initS=true
structure AtInv (t:Tp) (rest:List Bx) (p:Pol):Prop where
 rs:setB rest=true
 al:setB p.allow=true
 rr:∀q,InP q->memK q 5 rest=true->realM t q
 ar:∀q,InP q->memK q 5 p.allow=true->realM t q
 dj:∀q,InP q->memK q 5 rest=true->memK q 5 p.allow=false
 nm:∀x,x∈p.insp->nameOk x.cls
 ne:∀x,x∈p.insp->x.set≠[]
 st:∀x,x∈p.insp->setB x.set=true
 sb:∀x,x∈p.insp->∀q,InP q->memK q 5 x.set=true->memK q 5 p.allow=true
 ds:p.insp.Pairwise fun x y=>∀q,InP q->memK q 5 x.set=true->memK q 5 y.set=false
 od:p.insp.Pairwise fun x y=>ltS x.cls y.cls=true
inductive PutR (l:List Insp) (c:ByteArray) (s:List Bx):List Insp->Int->Prop
 |skip:(c.toList=[]\/s=[])->PutR l c s l 0
 |ins (k:Nat):c.toList≠[]->s≠[]->k<=l.length->(∀(j:Nat) y,j<k->l[j]? =some y->ltS y.cls c=true)->(∀y,l[k]? =some y->ltS y.cls c=false/\(y.cls.toList==c.toList)=false)->PutR l c s (l.take k++⟨c,s⟩::l.drop k) 0
 |uni (k:Nat) (y:Insp):c.toList≠[]->s≠[]->l[k]? =some y->(y.cls.toList==c.toList)=true->PutR l c s (l.set k ⟨y.cls,(combP orB y.set s).1⟩) (combP orB y.set s).2
theorem AtInv.deny{t:Tp}{rest s:List Bx}{p:Pol}(h:AtInv t rest p)(hs:setB s=true):AtInv t (combP woB rest s).1 p:=by
 have hm:∀q,InP q->memK q 5 (combP woB rest s).1=true->memK q 5 rest=true:=fun q hq h1=>by
  have:=combP_sub h.rs hs hq h1
  simp only[woB,Bool.and_eq_true]at this
  exact this.1
 exact⟨setB_combP ..,h.al,fun q hq h1=>h.rr q hq (hm q hq h1),h.ar,fun q hq h1=>h.dj q hq (hm q hq h1),h.nm,h.ne,h.st,h.sb,h.ds,h.od⟩
theorem AtInv.permit{t:Tp}{rest s:List Bx}{p:Pol}{c:ByteArray}{l':List Insp}{e:Int}(h:AtInv t rest p)(hs:setB s=true)(hc:c.toList=[]\/nameOk c)(e1:(combP anB rest s).2=0)
  (e2:(combP woB rest s).2=0)(e3:(combP orB p.allow (combP anB rest s).1).2=0)(hp:PutR p.insp c (combP anB rest s).1 l' e)(he:e=0):
  AtInv t (combP woB rest s).1 ⟨(combP orB p.allow (combP anB rest s).1).1,l'⟩:=by
 have hps:setB (combP anB rest s).1=true:=setB_combP ..
 have hpm:∀q,InP q->memK q 5 (combP anB rest s).1=(memK q 5 rest&&memK q 5 s):=fun q hq=>by rw[combP_mem h.rs hs e1 hq];rfl
 have hrm:∀q,InP q->memK q 5 (combP woB rest s).1=(memK q 5 rest&& !memK q 5 s):=fun q hq=>by rw[combP_mem h.rs hs e2 hq];rfl
 have ham:∀q,InP q->memK q 5 (combP orB p.allow (combP anB rest s).1).1=(memK q 5 p.allow||memK q 5 (combP anB rest s).1):=fun q hq=>by rw[combP_mem h.al hps e3 hq];rfl
 have hdis:∀x,x∈p.insp->∀q,InP q->memK q 5 (combP anB rest s).1=true->memK q 5 x.set=false:=fun x hx q hq h1=>by
  rw[hpm q hq]at h1
  simp only[Bool.and_eq_true]at h1
  rw[Bool.eq_false_iff]
  intro h2
  have:=h.dj q hq h1.1
  rw[h.sb x hx q hq h2]at this
  cases this
 have hsb:∀x,x∈p.insp->∀q,InP q->memK q 5 x.set=true->memK q 5 (combP orB p.allow (combP anB rest s).1).1=true:=fun x hx q hq h1=>by
  rw[ham q hq,h.sb x hx q hq h1];rfl
 have hpb:∀q,InP q->memK q 5 (combP anB rest s).1=true->memK q 5 (combP orB p.allow (combP anB rest s).1).1=true:=fun q hq h1=>by rw[ham q hq,h1,Bool.or_true]
 have f1:setB (combP woB rest s).1=true:=setB_combP ..
 have f2:setB (combP orB p.allow (combP anB rest s).1).1=true:=setB_combP ..
 have f3:∀q,InP q->memK q 5 (combP woB rest s).1=true->realM t q:=fun q hq h1=>by
  rw[hrm q hq]at h1
  simp only[Bool.and_eq_true]at h1
  exact h.rr q hq h1.1
 have f4:∀q,InP q->memK q 5 (combP orB p.allow (combP anB rest s).1).1=true->realM t q:=fun q hq h1=>by
  rw[ham q hq,hpm q hq]at h1
  simp only[Bool.or_eq_true,Bool.and_eq_true]at h1
  rcases h1 with h1|h1
  ·exact h.ar q hq h1
  ·exact h.rr q hq h1.1
 have f5:∀q,InP q->memK q 5 (combP woB rest s).1=true->memK q 5 (combP orB p.allow (combP anB rest s).1).1=false:=fun q hq h1=>by
  rw[hrm q hq]at h1
  simp only[Bool.and_eq_true,Bool.not_eq_true']at h1
  rw[ham q hq,hpm q hq,h.dj q hq h1.1,h1.2,Bool.and_false];rfl
 cases hp with
 |skip h0=>exact⟨f1,f2,f3,f4,f5,h.nm,h.ne,h.st,hsb,h.ds,h.od⟩
 |ins k h0 h1 hk hlt hge=>
  have hmem:∀x,x∈p.insp.take k++⟨c,(combP anB rest s).1⟩::p.insp.drop k->x∈p.insp\/x=⟨c,(combP anB rest s).1⟩:=fun x hx=>by
   rcases List.mem_append.1 hx with hx|hx
   ·exact .inl (List.mem_of_mem_take hx)
   ·rcases List.mem_cons.1 hx with hx|hx
    ·exact .inr hx
    ·exact .inl (List.mem_of_mem_drop hx)
  have hall:∀(Q:Insp->Prop),(∀x,x∈p.insp->Q x)->Q ⟨c,(combP anB rest s).1⟩->∀x,x∈p.insp.take k++⟨c,(combP anB rest s).1⟩::p.insp.drop k->Q x:=fun Q g1 g2 x hx=>by
   rcases hmem x hx with hx|rfl
   ·exact g1 x hx
   ·exact g2
  have hpw:∀(R:Insp->Insp->Prop),p.insp.Pairwise R->(∀x,x∈p.insp.take k->R x ⟨c,(combP anB rest s).1⟩)->(∀x,x∈p.insp.drop k->R ⟨c,(combP anB rest s).1⟩ x)->(p.insp.take k++⟨c,(combP anB rest s).1⟩::p.insp.drop k).Pairwise R:=fun R g g1 g2=>by
   rw[<-List.take_append_drop k p.insp]at g
   rw[List.pairwise_append]at g⊢
   refine⟨g.1,List.pairwise_cons.2 ⟨g2,g.2.1⟩,fun a ha b hb=>?_⟩
   rcases List.mem_cons.1 hb with rfl|hb
   ·exact g1 a ha
   ·exact g.2.2 a ha b hb
  refine⟨f1,f2,f3,f4,f5,hall _ h.nm (hc.resolve_left h0),hall (fun x=>x.set≠[]) h.ne h1,hall (fun x=>setB x.set=true) h.st hps,hall (fun x=>∀q,InP q->memK q 5 x.set=true->_) hsb hpb,?_,?_⟩
  ·refine hpw _ h.ds (fun x hx q hq h2=>?_) (fun x hx q hq h2=>hdis x (List.mem_of_mem_drop hx) q hq h2)
   rw[Bool.eq_false_iff]
   intro h3
   rw[hdis x (List.mem_of_mem_take hx) q hq h3]at h2
   cases h2
  ·refine hpw _ h.od (fun x hx=>?_) (fun x hx=>?_)
   ·obtain⟨j,hj⟩:=List.mem_iff_getElem?.1 hx
    rw[List.getElem?_take]at hj
    split at hj
    ·exact hlt j x (by assumption) hj
    ·cases hj
   ·obtain⟨j,hj⟩:=List.mem_iff_getElem?.1 hx
    rw[List.getElem?_drop]at hj
    obtain⟨y,hy⟩:∃y,p.insp[k]? =some y:=⟨_,List.getElem?_eq_getElem (by have:=(List.getElem?_eq_some_iff.1 hj).1;omega)⟩
    obtain⟨g1,g2⟩:=hge y hy
    have hcy:ltS c y.cls=true:=bl_total _ _ g1 g2
    rcases Nat.eq_zero_or_pos j with rfl|hj0
    ·rw[Nat.add_zero,hy]at hj
     cases hj;exact hcy
    ·have:=List.pairwise_iff_getElem.1 h.od k (k+j) (List.getElem?_eq_some_iff.1 hy).1 (List.getElem?_eq_some_iff.1 hj).1 (by omega)
     rw[(List.getElem?_eq_some_iff.1 hy).2,(List.getElem?_eq_some_iff.1 hj).2]at this
     exact bl_trans _ _ _ hcy this
 |uni k y h0 h1 hk hy=>
  have hym:y∈p.insp:=List.mem_of_getElem? hk
  have hum:∀q,InP q->memK q 5 (combP orB y.set (combP anB rest s).1).1=(memK q 5 y.set||memK q 5 (combP anB rest s).1):=fun q hq=>by rw[combP_mem (h.st y hym) hps he hq];rfl
  have hall:∀(Q:Insp->Prop),(∀x,x∈p.insp->Q x)->Q ⟨y.cls,(combP orB y.set (combP anB rest s).1).1⟩->∀x,x∈p.insp.set k ⟨y.cls,(combP orB y.set (combP anB rest s).1).1⟩->Q x:=fun Q g1 g2 x hx=>by
   rcases List.mem_or_eq_of_mem_set hx with hx|rfl
   ·exact g1 x hx
   ·exact g2
  have hkl:=(List.getElem?_eq_some_iff.1 hk).1
  have hke:=(List.getElem?_eq_some_iff.1 hk).2
  have hpw:∀(R:Insp->Insp->Prop),p.insp.Pairwise R->(∀x,x∈p.insp->R x y->R x ⟨y.cls,(combP orB y.set (combP anB rest s).1).1⟩)->(∀x,x∈p.insp->R y x->R ⟨y.cls,(combP orB y.set (combP anB rest s).1).1⟩ x)->(p.insp.set k ⟨y.cls,(combP orB y.set (combP anB rest s).1).1⟩).Pairwise R:=fun R g g1 g2=>by
   rw[List.pairwise_iff_getElem]at g⊢
   intro i j hi hj hij
   rw[List.length_set]at hi hj
   rw[List.getElem_set,List.getElem_set]
   by_cases e1:k=i
   ·rw[if_pos e1,if_neg (by omega)]
    refine g2 _ (List.getElem_mem _) ?_
    subst e1
    have:=g k j hi hj hij
    rwa[hke]at this
   ·rw[if_neg e1]
    by_cases e2:k=j
    ·rw[if_pos e2]
     refine g1 _ (List.getElem_mem _) ?_
     subst e2
     have:=g i k hi hj hij
     rwa[hke]at this
    ·rw[if_neg e2];exact g i j hi hj hij
  refine⟨f1,f2,f3,f4,f5,hall _ h.nm (h.nm y hym),hall (fun x=>x.set≠[]) h.ne ?_,hall (fun x=>setB x.set=true) h.st (setB_combP ..),hall (fun x=>∀q,InP q->memK q 5 x.set=true->_) hsb ?_,?_,?_⟩
  ·intro e0
   simp only at e0
   have:∀q,InP q->memK q 5 y.set=false:=fun q hq=>by
    have:=hum q hq
    rw[e0,memK_nil]at this
    cases hy:memK q 5 y.set
    ·rfl
    ·rw[hy]at this;cases this
   obtain⟨b,hb⟩:=List.exists_mem_of_ne_nil _ (h.ne y hym)
   obtain⟨q,hq,hqb⟩:=box_point (okL_set (h.st y hym) b hb)
   have h3:=this q hq
   rw[memK_iff.2 ⟨b,hb,hqb⟩]at h3
   cases h3
  ·intro q hq h2
   simp only at h2
   rw[hum q hq,Bool.or_eq_true]at h2
   rcases h2 with h2|h2
   ·exact hsb y hym q hq h2
   ·exact hpb q hq h2
  ·refine hpw _ h.ds (fun x hx hr q hq h2=>?_) (fun x hx hr q hq h2=>?_)
   ·simp only
    rw[hum q hq,hr q hq h2,Bool.false_or,Bool.eq_false_iff]
    intro h3
    rw[hdis x hx q hq h3]at h2
    cases h2
   ·simp only at h2
    rw[hum q hq,Bool.or_eq_true]at h2
    rcases h2 with h2|h2
    ·exact hr q hq h2
    ·exact hdis x hx q hq h2
  ·exact hpw _ h.od (fun x hx hr=>hr) (fun x hx hr=>hr)
theorem init_vld:vldB initS=initS:=by decide+kernel
theorem init_set:setB initS=true:=by decide+kernel
theorem AtInv.pol{t:Tp}{rest:List Bx}{p:Pol}(h:AtInv t rest p)(hc:compB t=true):PolOk t p:=by
 refine⟨hc,h.al,subB_of (okL_set h.al) fun q hq h1=>(h.ar q hq h1).1,subB_of (okL_set h.al) fun q hq h1=>by rw[init_vld];exact(h.ar q hq h1).2,fun n x hx=>?_⟩
 have hxm:=List.mem_of_getElem? hx
 refine⟨h.nm x hxm,fun k y hn hy=>?_,h.ne x hxm,h.st x hxm,subB_of (okL_set (h.st x hxm)) fun q hq h1=>by rw[vld_all (okL_set h.al)];exact h.sb x hxm q hq h1,fun k y hk hy=>?_⟩
 ·have:=List.pairwise_iff_getElem.1 h.od k n (List.getElem?_eq_some_iff.1 hy).1 (List.getElem?_eq_some_iff.1 hx).1 (by omega)
  rw[(List.getElem?_eq_some_iff.1 hy).2,(List.getElem?_eq_some_iff.1 hx).2]at this
  obtain⟨h1,h2⟩:=bl_asymm _ _ this
  simp only[leS,h1,h2];rfl
 ·have:=List.pairwise_iff_getElem.1 h.ds k n (List.getElem?_eq_some_iff.1 hy).1 (List.getElem?_eq_some_iff.1 hx).1 hk
  rw[(List.getElem?_eq_some_iff.1 hy).2,(List.getElem?_eq_some_iff.1 hx).2]at this
  rw[<-disj_iff (h.st x hxm) (h.st y (List.mem_of_getElem? hy)),cano_nil_mem]
  intro q hq
  simp only[anB,Bool.and_eq_false_iff]
  by_cases h1:memK q 5 x.set=true
  ·right
   rw[Bool.eq_false_iff]
   intro h2
   rw[this q hq h2]at h1
   cases h1
  ·left;simpa using h1
def realP(t:Tp):List Bx×Int:=if(makeP (pairsB t.edges)).2≠0 then([],(makeP (pairsB t.edges)).2)else combP anB (makeP (pairsB t.edges)).1 initS
theorem setB_realP(t:Tp):setB (realP t).1=true:=by
 unfold realP;split
 ·exact setB_nil
 ·exact setB_combP ..
theorem realP_mem(t:Tp):∀q,InP q->memK q 5 (realP t).1=true->realM t q:=fun q hq h=>by
 unfold realP at h
 split at h
 ·rw[memK_nil]at h;cases h
 ·have:=combP_sub (setB_makeP _) init_set hq h
  simp only[anB,Bool.and_eq_true]at this
  exact⟨makeP_mem hq this.1,this.2⟩
theorem atInv_start(t:Tp):AtInv t (realP t).1 ⟨[],[]⟩:=
 ⟨setB_realP t,setB_nil,realP_mem t,(fun q hq h=>by rw[memK_nil]at h;cases h),fun q hq h=>rfl,(fun x h=>by simp at h),(fun x h=>by simp at h),(fun x h=>by simp at h),(fun x h=>by simp at h),List.Pairwise.nil,List.Pairwise.nil⟩
theorem polOk_some{t:Tp}{l:List Bx}(hc:compB t=true):PolOk t ⟨(combP anB (realP t).1 l).1,[]⟩:=by
 have hm:∀q,InP q->memK q 5 (combP anB (realP t).1 l).1=true->memK q 5 (realP t).1=true:=fun q hq h=>by
  have e:combP anB (realP t).1 l=combP anB (realP t).1 l:=rfl
  unfold combP at h
  split at h
  ·rw[memK_nil]at h;cases h
  ·split at h
   ·rw[memK_nil]at h;cases h
   ·simp only[limP]at h
    split at h
    ·rw[memK_nil]at h;cases h
    ·rw[cano_mem anB hq 5 _ _ (Nat.le_refl _)]at h
     simp only[anB,Bool.and_eq_true]at h
     have h1:=h.1
     rw[givP,if_pos (setB_realP t)]at h1
     exact h1
 refine AtInv.pol (rest:=[]) ⟨setB_nil,setB_combP ..,(fun q hq h=>by rw[memK_nil]at h;cases h),fun q hq h=>realP_mem t q hq (hm q hq h),(fun q hq h=>by rw[memK_nil]at h;cases h),(fun x h=>by simp at h),(fun x h=>by simp at h),(fun x h=>by simp at h),(fun x h=>by simp at h),List.Pairwise.nil,List.Pairwise.nil⟩ hc
theorem polOk_insp{t:Tp}{l:List Bx}{w:List Bx}{c:ByteArray}(h:PolOk t ⟨l,[]⟩)(hn:nameOk c)(hne:(combP anB l w).1≠[]):PolOk t ⟨l,[⟨c,(combP anB l w).1⟩]⟩:=by
 have hl:setB l=true:=h.set
 refine⟨h.comp,h.set,h.sub,h.init,fun n x hx=>?_⟩
 match n,hx with
 |0,hx=>
  simp at hx;subst hx
  refine⟨hn,fun k y hk _=>by omega,hne,setB_combP ..,subB_of (okL_set (setB_combP ..)) fun q hq h1=>?_,fun k y hk=>by omega⟩
  rw[vld_all (okL_set hl)]
  simp only at h1
  unfold combP at h1
  split at h1
  ·rw[memK_nil]at h1;cases h1
  ·split at h1
   ·rw[memK_nil]at h1;cases h1
   ·simp only[limP]at h1
    split at h1
    ·rw[memK_nil]at h1;cases h1
    ·rw[cano_mem anB hq 5 _ _ (Nat.le_refl _)]at h1
     simp only[anB,Bool.and_eq_true]at h1
     have h2:=h1.1
     rwa[givP,if_pos hl]at h2
 |n+1,hx=>simp at hx
structure It where
 kind:Int
 name:ByteArray
 pf:Pf
 proto:Int
 ports:Rg
structure Df where
 name:ByteArray
 items:List It
structure Wn where
 name:ByteArray
 act:List Rg
structure Sm where
 permit:Bool
 frm:ByteArray
 to:ByteArray
 svc:ByteArray
 exc:Bool
 exF:ByteArray
 exT:ByteArray
 cls:ByteArray
 dur:ByteArray
 pri:Int
structure Pb where
 addr:Int
 proto:Int
 port:Int
 edge:ByteArray
 real:Int
 rport:Int
structure Hn where
 grp:ByteArray
 edge:ByteArray
 addr:Int
 ports:Rg
structure Nt where
 grps:List Df
 svcs:List Df
 wins:List Wn
 sts:List Sm
 pubs:List Pb
 hids:List Hn
noncomputable abbrev encIt(x:It):AV:=.agg [.v (.int .i64 x.kind),.v (.string x.name),.v (.int .u32 x.pf.addr),.v (.int .i64 x.pf.bits),.v (.int .i64 x.proto),.v (.int .u32 x.ports.lo),.v (.int .u32 x.ports.hi)]
noncomputable abbrev encDf(x:Df):AV:=.agg [.v (.string x.name),.lst (x.items.map encIt)]
noncomputable abbrev encWn(x:Wn):AV:=.agg [.v (.string x.name),encRs x.act]
noncomputable abbrev encSm(x:Sm):AV:=.agg [.sb x.permit,.v (.string x.frm),.v (.string x.to),.v (.string x.svc),.sb x.exc,.v (.string x.exF),.v (.string x.exT),.v (.string x.cls),.v (.string x.dur),.v (.int .i64 x.pri)]
noncomputable abbrev encPb(x:Pb):AV:=.agg [.v (.int .u32 x.addr),.v (.int .i64 x.proto),.v (.int .i64 x.port),.v (.string x.edge),.v (.int .u32 x.real),.v (.int .i64 x.rport)]
noncomputable abbrev encHn(x:Hn):AV:=.agg [.v (.string x.grp),.v (.string x.edge),.v (.int .u32 x.addr),.v (.int .u32 x.ports.lo),.v (.int .u32 x.ports.hi)]
noncomputable abbrev celNt(i:Nt):List AV:=[.lst (i.grps.map encDf),.lst (i.svcs.map encDf),.lst (i.wins.map encWn),.lst (i.sts.map encSm),.lst (i.pubs.map encPb),.lst (i.hids.map encHn)]
noncomputable abbrev encNt(i:Nt):AV:=.agg (celNt i)
noncomputable abbrev boxNt(i:Nt):Vm.Obj:=.box (celNt i)
structure Sml (i:Nt):Prop where
 g:i.grps.length<=1000
 s:i.svcs.length<=1000
 w:i.wins.length<=1000
 t:i.sts.length<=1000
 p:i.pubs.length<=1000
 h:i.hids.length<=1000
 gi:∀x,x∈i.grps->x.items.length<=1000
 si:∀x,x∈i.svcs->x.items.length<=1000
 wi:∀x,x∈i.wins->x.act.length<=4000
end Go.Proofs.YtokmdghjgegclaaGreatDoor
