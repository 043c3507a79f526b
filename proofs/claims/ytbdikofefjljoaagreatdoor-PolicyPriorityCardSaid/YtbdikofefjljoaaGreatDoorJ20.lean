/- slices.Sort of uint64: broken patterns. -/
import Derived.Test.YtbdikofefjljoaaGreatDoorJ19
set_option linter.unusedVariables false
set_option linter.unusedSimpArgs false
set_option maxRecDepth 100000
set_option maxHeartbeats 4000000
namespace Go.Proofs.YtbdikofefjljoaaGreatDoor
open Go Go.Vm
theorem wrap_u64_range(e:Int):0<=IntKind.u64.wrap e/\IntKind.u64.wrap e<=18446744073709551615:=by
 simp only[IntKind.wrap,IntKind.signed,IntKind.bits]
 simp
 omega
theorem wr_u64_any{e:Int}{K:Int->Prop}(hK:∀r:Int,0<=r->r<=18446744073709551615->K r):Wr .u64 e K:=Wr.intro rfl (hK _ (wrap_u64_range e).1 (wrap_u64_range e).2)
theorem xor_range(a b:Int):0<=bBits .xor .u64 a b/\bBits .xor .u64 a b<=18446744073709551615:=wrap_u64_range _
theorem csNext(r:Int)(h0:0<=r)(h1:r<=18446744073709551615){K:KT}(hK:∀r':Int,0<=r'->r'<=18446744073709551615->K (.v (.int .u64 r')) [.box [.v (.int .u64 r')]]):
  AC 275 [.op 0 0] [.box [.v (.int .u64 r)]] K:=by
 refine ofsNext rfl rfl ?_
 (repeat' ((conv=>whnf);first|(refine wr_u64_any fun z _ _=>?_)|refine zG ?_|apply zA|intro h|exact zT));all_goals conv=>whnf
 exact hK _ (xor_range _ _).1 (xor_range _ _).2
theorem fd64(x s:Nat)(hs:s=8\/s=16\/s=32):(x:Int).fdiv (2^min (Int.toNat (s:Int)) IntKind.u64.bits)=((x/2^s:Nat):Int):=by
 have e:(2^min (Int.toNat (s:Int)) IntKind.u64.bits:Int)=((2^s:Nat):Int):=by
  rcases hs with rfl|rfl|rfl<;>rfl
 rw[e,Int.fdiv_eq_ediv_of_nonneg _ (Int.natCast_nonneg _)]
 exact(Int.natCast_ediv _ _).symm
theorem f32(x:Nat):(x:Int).fdiv (2^min (Int.toNat 32) IntKind.u64.bits)=((x/2^32:Nat):Int):=fd64 x 32 zx
theorem f16(x:Nat):(x:Int).fdiv (2^min (Int.toNat 16) IntKind.u64.bits)=((x/2^16:Nat):Int):=fd64 x 16 zx
theorem f8(x:Nat):(x:Int).fdiv (2^min (Int.toNat 8) IntKind.u64.bits)=((x/2^8:Nat):Int):=fd64 x 8 zx
theorem csLen64(x:Nat)(hx:x<1000000000000){K:KT}(hK:∀n:Nat,IsLen x n->K (.v (.int .i64 n)) []):AC 209 [.v (.int .u64 x)] [] K:=by
 refine ofsLen64 rfl rfl ?_
 (repeat' ((conv=>whnf);first|refine zG ?_|apply zA|intro h|exact zT));all_goals conv=>whnf
 ·rename_i h1 h3
  rw[f32]at h3
  rw[f32,f16]at h
  omega
 ·rename_i h1 h3
  rw[f32]at h3
  omega
 ·rename_i h1 h3
  rw[f32]at h3
  have h2:=h
  rw[f32]at h2
  refine wr_u8 (x/2^32/2^8) (by rw[f32,f8]) zo ?_
  (repeat' ((conv=>whnf);first|(with_reducible refine tab_in zk zo fun b hb hb2=>?_)|refine zG ?_|apply zA|intro h|exact zT));all_goals conv=>whnf
  have e:(32+8+(b.toNat:Int))=((b.toNat+8+32:Nat):Int):=by omega
  unfold one?
  rw[e]
  exact hK _ (isLen_shift (isLen_shift hb zo) zo)
 ·rename_i h1 h3
  rw[f32]at h3
  have h2:=h
  rw[f32]at h2
  refine wr_u8 (x/2^32) (by rw[f32]) zo ?_
  (repeat' ((conv=>whnf);first|(with_reducible refine tab_in zk zo fun b hb hb2=>?_)|refine zG ?_|apply zA|intro h|exact zT));all_goals conv=>whnf
  have e:(32+(b.toNat:Int))=((b.toNat+32:Nat):Int):=by omega
  unfold one?
  rw[e]
  exact hK _ (isLen_shift hb zo)
 ·have h2:=h
  rw[f16]at h2
  refine wr_u8 (x/2^16/2^8) (by rw[f16,f8]) zo ?_
  (repeat' ((conv=>whnf);first|(with_reducible refine tab_in zk zo fun b hb hb2=>?_)|refine zG ?_|apply zA|intro h|exact zT));all_goals conv=>whnf
  have e:(0+16+8+(b.toNat:Int))=((b.toNat+8+16:Nat):Int):=by omega
  unfold one?
  rw[e]
  exact hK _ (isLen_shift (isLen_shift hb zo) zo)
 ·have h2:=h
  rw[f16]at h2
  refine wr_u8 (x/2^16) (by rw[f16]) zo ?_
  (repeat' ((conv=>whnf);first|(with_reducible refine tab_in zk zo fun b hb hb2=>?_)|refine zG ?_|apply zA|intro h|exact zT));all_goals conv=>whnf
  have e:(0+16+(b.toNat:Int))=((b.toNat+16:Nat):Int):=by omega
  unfold one?
  rw[e]
  exact hK _ (isLen_shift hb zo)
 ·have h2:=h
  refine wr_u8 (x/2^8) (by rw[f8]) zo ?_
  (repeat' ((conv=>whnf);first|(with_reducible refine tab_in zk zo fun b hb hb2=>?_)|refine zG ?_|apply zA|intro h|exact zT));all_goals conv=>whnf
  have e:(0+8+(b.toNat:Int))=((b.toNat+8:Nat):Int):=by omega
  unfold one?
  rw[e]
  exact hK _ (isLen_shift hb zo)
 ·have h2:=h
  refine wr_u8 x rfl zo ?_
  (repeat' ((conv=>whnf);first|(with_reducible refine tab_in zk zo fun b hb hb2=>?_)|refine zG ?_|apply zA|intro h|exact zT));all_goals conv=>whnf
  have e:(0+(b.toNat:Int))=((b.toNat:Nat):Int):=by omega
  unfold one?
  rw[e]
  exact hK _ hb
theorem csLen(x:Nat)(hx:x<1000000000000){K:KT}(hK:∀n:Nat,IsLen x n->K (.v (.int .i64 n)) []):AC 116 [.v (.int .u64 x)] [] K:=by
 refine ofsLen rfl rfl ?_
 (repeat' ((conv=>whnf);first|(with_reducible refine csLen64 x hx fun n hn=>?_)|refine zG ?_|apply zA|intro h|exact zT));all_goals conv=>whnf
 exact hK n hn
theorem len_le{x n:Nat}(hx:x<1000000000000)(h:IsLen x n):n<=40:=by
 rcases h.2 with h1|h1
 ·omega
 ·rcases aD 40 n with h2|h2
  ·have:=fR (n:=2) zo (show 40<=n-1 by omega)
   omega
  ·exact h2
theorem csPow2(x:Nat)(hx:x<1000000000000){K:KT}(hK:∀n:Nat,IsLen x n->K (.v (.int .u64 ((2^n:Nat):Int))) []):AC 274 [.v (.int .i64 x)] [] K:=by
 refine ofsPow2 rfl rfl ?_
 (repeat' ((conv=>whnf);first|(with_reducible refine csLen x hx fun n hn=>?_)|refine zG ?_|apply zA|intro h|exact zT));all_goals conv=>whnf
 have h40:=len_le hx hn
 have e:(1:Int)*2^min ((n:Int)).toNat IntKind.u64.bits=((2^n:Nat):Int):=by
  rw[Int.one_mul,fP,show IntKind.u64.bits=64 from rfl,eW zo,Int.natCast_pow]
  rfl
 have hp:=fR (n:=2) zo h40
 refine wr_u64 e (Int.natCast_nonneg _) zo ?_
 (repeat' ((conv=>whnf);first|refine zG ?_|apply zA|intro h|exact zT));all_goals conv=>whnf
 exact hK n hn
theorem and_range{r m:Nat}(hm:m<18446744073709551616):∃o:Nat,bBits .and .u64 (r:Int) (m:Int)=(o:Int)/\o<=m:=by
 have h0:(BitVec.ofInt 64 (m:Int)).toNat=m:=by
  rw[BitVec.toNat_ofInt]
  omega
 have h1:(BitVec.ofInt 64 (r:Int)&&&BitVec.ofInt 64 (m:Int)).toNat<=m:=by
  rw[BitVec.toNat_and,h0]
  exact Nat.and_le_right
 refine⟨(BitVec.ofInt 64 (r:Int)&&&BitVec.ofInt 64 (m:Int)).toNat,?_,h1⟩
 show IntKind.u64.wrap ((BitVec.ofInt 64 (r:Int)&&&BitVec.ofInt 64 (m:Int)).toNat:Int)=_
 generalize (BitVec.ofInt 64 (r:Int)&&&BitVec.ofInt 64 (m:Int)).toNat=z at h1
 simp only[IntKind.wrap,IntKind.signed,IntKind.bits]
 simp
 omega
theorem csBrk(d:Array Int)(a b:Nat)(hab:a<b)(hb:b<=d.size)(hsz:d.size<1000000000000){K:KT}(hK:∀e,Sort.PermIn a b d e->K (.tup []) [rowZ e]):
  AC 349 [.os 0 1 0 d.size,.v (.int .i64 a),.v (.int .i64 b)] [rowZ d] K:=by
 refine ofsBrk rfl rfl ?_
 have q0:((b:Int)-a).tdiv 4=(((b-a)/4:Nat):Int):=by rw[dF zo];omega
 have hw:∀{K:Int->Prop},K (((b-a)/4:Nat):Int)->Wr .i64 (((b:Int)-a).tdiv 4) K:=fun h=>wr_i64 q0 zo zo h
 have hba:(b:Int)-a=((b-a:Nat):Int):=by omega
 have hpow:∀{K:KT},(∀n:Nat,IsLen (b-a) n->K (.v (.int .u64 ((2^n:Nat):Int))) [])->AC 274 [.v (.int .i64 ((b:Int)-a))] [] K:=fun h=>by rw[hba];exact csPow2 (b-a) zo h
 (repeat' ((conv=>whnf);first|(with_reducible first|refine hw ?_|refine hpow fun n hn=>?_)|refine zG ?_|apply zA|intro h|exact zT));all_goals conv=>whnf
 ·have h8:=h
  have hp2:2^n<=2*(b-a):=by
   rcases hn.2 with h1|h1
   ·subst h1;omega
   ·rcases n with _|n
    ·omega
    ·rw[Nat.add_sub_cancel]at h1
     rw[Nat.pow_succ]
     omega
  have hp1:=hn.1
  have hp0:=fI n
  have hq1:4*((b-a)/4)<=b-a:=by omega
  have hq2:b-a<4*((b-a)/4)+4:=by omega
  clear hpow q0
  generalize (b-a)/4=q at*
  generalize 2^n=M at*
  refine gL (Nat×Int×Array Int) (fun g=>⟨2,[(0,rowZ g.2.2),(1,.box [.v (.int .u64 g.2.1)])],[(0,.os 0 1 0 d.size),(1,.v (.int .i64 a)),(6,.v (.int .i64 ((b:Int)-a))),(7,.op 1 0),(8,.v (.int .u64 ((M:Nat):Int))),(9,.v (.int .i64 g.1))]⟩)
   (fun g=>a+2*q<=g.1+1/\g.1<=a+2*q+2/\0<=g.2.1/\g.2.1<=18446744073709551615/\Sort.PermIn a b d g.2.2) (fun g=>a+2*q+2-g.1) (a+2*q-1,(b:Int)-a,d) ⟨by dsimp only;omega,by dsimp only;omega,by dsimp only;omega,by dsimp only;omega,Sort.permIn_refl d a b⟩ ?_ ?_
  ·dsimp only
   rw[show((a+2*q-1:Nat):Int)=(a:Int)+(q:Int)*2-1 by omega]
   (exact leA)
  rintro⟨i,r,e⟩ ⟨hi1,hi2,hr1,hr2,hpe⟩
  simp only at hi1 hi2 hr1 hr2 hpe⊢
  have hes:e.size=d.size:=hpe.1
  rcases aD (a+2*q+1) i with h1|h1
  ·(repeat' ((conv=>whnf);first|(with_reducible refine hw ?_)|refine zG ?_|apply zA|intro h|exact zT));all_goals conv=>whnf
   exact hK e hpe
  ·(repeat' ((conv=>whnf);first|(with_reducible first|refine hw ?_|refine csNext r hr1 hr2 fun r' h0 h1=>?_)|refine zG ?_|apply zA|intro h|exact zT));all_goals conv=>whnf
   obtain⟨r',rfl⟩:=dW h0
   have hM1:(M:Int)-1=((M-1:Nat):Int):=by omega
   obtain⟨o,ho,hom⟩:=and_range (r:=r') (m:=M-1) zo
   rw[hM1,ho]
   have n1:i<d.size:=by omega
   have n1':i<e.size:=by omega
   have step:∀o':Nat,o'<b-a->∃g':Nat×Int×Array Int,(a+2*q<=g'.1+1/\g'.1<=a+2*q+2/\0<=g'.2.1/\g'.2.1<=18446744073709551615/\Sort.PermIn a b d g'.2.2)/\a+2*q+2-g'.1<a+2*q+2-i/\g'=(i+1,(r':Int),Sort.swp e i (a+o')):=fun o' ho'=>
    ⟨(i+1,(r':Int),Sort.swp e i (a+o')),⟨by dsimp only;omega,by dsimp only;omega,h0,h1,Sort.permIn_trans _ _ _ _ _ hpe (Sort.swp_permIn _ _ _ _ _ zo zo zo zo zo)⟩,by dsimp only;omega,rfl⟩
   rcases aD o (b-a)with hoL|hoL
   ·have n2':a+o<e.size:=by omega
    obtain⟨g',k1,k2,rfl⟩:=step o hoL
    (repeat' ((conv=>whnf);first|(with_reducible refine hU n1 ?_)|(refine gS (a+o) zo zo ?_)|(with_reducible first|refine ix_z n1' ?_|refine ix_z n2' ?_)|(refine ix_zw n2' fun z=>?_)|(rw[swp0])|refine zG ?_|apply zA|intro h|exact zT));all_goals conv=>whnf
    refine⟨_,k1,k2,?_⟩
    dsimp only
    rw[aO,aN]
    (exact leA)
   ·have n2':a+(o-(b-a))<e.size:=by omega
    obtain⟨g',k1,k2,rfl⟩:=step (o-(b-a)) zo
    (repeat' ((conv=>whnf);first|(with_reducible refine hU n1 ?_)|(refine gS (a+(o-(b-a))) zo zo ?_)|(with_reducible first|refine ix_z n1' ?_|refine ix_z n2' ?_)|(refine ix_zw n2' fun z=>?_)|(rw[swp0])|refine zG ?_|apply zA|intro h|exact zT));all_goals conv=>whnf
    refine⟨_,k1,k2,?_⟩
    dsimp only
    rw[aO i,aN]
    (exact leA)
 ·exact hK d (Sort.permIn_refl d a b)
section
variable {n:Nat} {d:Array Int} (hn:d.size=n) (a b:Nat) (hsz:n<1000000000000) {K:KT}
include hn hsz
theorem csIns'(hab:a<=b)(hb:b<=n)(hK:∀e,Sort.PermIn a b d e->Sort.SortedIn Sort.ltInt a b e->K (.tup []) [rowZ e]):
  AC 347 [.os 0 1 0 n,.v (.int .i64 a),.v (.int .i64 b)] [rowZ d] K:=by
 subst hn
 have h:=Sort.insertionSort_holds Sort.swo_ltInt d a b hab hb
 exact csIns d a b hab hb hsz (hK _ h.1 h.2)
theorem csHeap'(hab:a<b)(hb:b<=n)(hK:∀e,Sort.PermIn a b d e->Sort.SortedIn Sort.ltInt a b e->K (.tup []) [rowZ e]):
  AC 348 [.os 0 1 0 n,.v (.int .i64 a),.v (.int .i64 b)] [rowZ d] K:=by
 subst hn
 have h:=Sort.heapSort_holds Sort.swo_ltInt d a b zo hb
 exact csHeap d a b hab hb hsz (hK _ h.1 h.2)
theorem csBrk'(hab:a<b)(hb:b<=n)(hK:∀e,Sort.PermIn a b d e->K (.tup []) [rowZ e]):
  AC 349 [.os 0 1 0 n,.v (.int .i64 a),.v (.int .i64 b)] [rowZ d] K:=by
 subst hn
 exact csBrk d a b hab hb hsz hK
theorem csRev'(hab:a<b)(hb:b<=n)(hK:∀e,Sort.PermIn a b d e->K (.tup []) [rowZ e]):
  AC 351 [.os 0 1 0 n,.v (.int .i64 a),.v (.int .i64 b)] [rowZ d] K:=by
 subst hn
 exact csRev d a b hab hb hsz (hK _ (Sort.reverseRange_holds d a b zo hb))
theorem csPiv'(hab:a<b)(hb:b<=n)(hK:∀(p:Nat) (h:Int),a<=p->p<b->K (.tup [.v (.int .i64 p),.v (.int .i64 h)]) [rowZ d]):
  AC 350 [.os 0 1 0 n,.v (.int .i64 a),.v (.int .i64 b)] [rowZ d] K:=by
 subst hn
 exact csPiv d a b hab hb hsz hK
theorem csPins'(hab:a<b)(hb:b<=n)(hB:Sort.Below Sort.ltInt a b d)(hK:∀e (r:Bool),Sort.PermIn a b d e->(r=true->Sort.SortedIn Sort.ltInt a b e)->K (.sb r) [rowZ e]):
  AC 352 [.os 0 1 0 n,.v (.int .i64 a),.v (.int .i64 b)] [rowZ d] K:=by
 subst hn
 have h:=Sort.partialInsertionSort_holds Sort.swo_ltInt d a b hab hb hB
 exact csPins d a b hab hb hsz (hK _ _ h.1 h.2)
theorem csPeq'(p:Nat)(hap:a<=p)(hpb:p<b)(hb:b<=n)(ha0:0<a)(hB:Sort.Below Sort.ltInt a b d)(hnl:Sort.ltInt d[a-1]! d[p]! =false)
  (hK:∀e (mid:Nat),a<mid->mid<=b->e.size=n->Sort.Below Sort.ltInt mid b e->(∀R,Sort.PermIn mid b e R->Sort.SortedIn Sort.ltInt mid b R->Sort.PermIn a b d R/\Sort.SortedIn Sort.ltInt a b R)->K (.v (.int .i64 mid)) [rowZ e]):
  AC 354 [.os 0 1 0 n,.v (.int .i64 a),.v (.int .i64 b),.v (.int .i64 p)] [rowZ d] K:=by
 subst hn
 obtain⟨h1,h2,h3,h4,h5⟩:=Sort.round_eq Sort.swo_ltInt (Sort.partitionEqual_holds Sort.ltInt) ha0 hap hpb hb hB hnl rfl
 exact csPeq d a b p hap hpb hb hsz (hK _ _ h1 h2 h3 h4 h5)
theorem csPart'(p:Nat)(hap:a<=p)(hpb:p<b)(hb:b<=n)(hB:Sort.Below Sort.ltInt a b d)
  (hK:∀e (mid:Nat) (r:Bool),a<=mid->mid<b->e.size=n->Sort.Below Sort.ltInt a mid e->Sort.Below Sort.ltInt (mid+1) b e->
   (∀L,Sort.PermIn a mid e L->Sort.SortedIn Sort.ltInt a mid L->Sort.Below Sort.ltInt (mid+1) b L/\∀R,Sort.PermIn (mid+1) b L R->Sort.SortedIn Sort.ltInt (mid+1) b R->Sort.PermIn a b d R/\Sort.SortedIn Sort.ltInt a b R)->
   (∀L,Sort.PermIn (mid+1) b e L->Sort.SortedIn Sort.ltInt (mid+1) b L->Sort.Below Sort.ltInt a mid L/\∀R,Sort.PermIn a mid L R->Sort.SortedIn Sort.ltInt a mid R->Sort.PermIn a b d R/\Sort.SortedIn Sort.ltInt a b R)->
   K (.tup [.v (.int .i64 mid),.sb r]) [rowZ e]):
  AC 355 [.os 0 1 0 n,.v (.int .i64 a),.v (.int .i64 b),.v (.int .i64 p)] [rowZ d] K:=by
 subst hn
 obtain⟨h1,h2,h3,h4,h5,h6,h7⟩:=Sort.round_part Sort.swo_ltInt (Sort.partition_holds Sort.ltInt) hap hpb hb hB rfl
 exact csPart d a b p hap hpb hb hsz (hK _ _ _ h1 h2 h3 h4 h5 h6 h7)
end
theorem csPdq:∀(N n:Nat) (d:Array Int) (a b limit:Nat) {K:KT},b-a<N->d.size=n->a<=b->b<=n->n<1000000000000->limit<1000->Sort.Below Sort.ltInt a b d->(∀e,Sort.PermIn a b d e->Sort.SortedIn Sort.ltInt a b e->K (.tup []) [rowZ e])->
  AC 337 [.os 0 1 0 n,.v (.int .i64 a),.v (.int .i64 b),.v (.int .i64 limit)] [rowZ d] K:=by
 intro N
 induction N with
 |zero=>intro n d a b limit K h;omega
 |succ N ih=>
  intro n d a b limit K hN hn hab hb hsz hlim hBel hK
  refine ofsPdq rfl rfl ?_
  (repeat' ((conv=>whnf);first|refine zG ?_|apply zA|intro h|exact zT));all_goals conv=>whnf
  refine gL (Nat×Nat×Nat×AV×AV×Array Int) (fun g=>⟨1,[(0,rowZ g.2.2.2.2.2)],[(0,.os 0 1 0 n),(1,.v (.int .i64 g.1)),(2,.v (.int .i64 g.2.1)),(3,.v (.int .i64 g.2.2.1)),(8,g.2.2.2.1),(9,g.2.2.2.2.1)]⟩)
   (fun g=>a<=g.1/\g.1<=g.2.1/\g.2.1<=b/\g.2.2.1<=limit/\(g.2.2.2.1=.v (.bool true)\/∃c,g.2.2.2.1=.sb c)/\(g.2.2.2.2.1=.v (.bool true)\/∃c,g.2.2.2.2.1=.sb c)/\g.2.2.2.2.2.size=n/\Sort.Below Sort.ltInt g.1 g.2.1 g.2.2.2.2.2/\
    ∀R,Sort.PermIn g.1 g.2.1 g.2.2.2.2.2 R->Sort.SortedIn Sort.ltInt g.1 g.2.1 R->Sort.PermIn a b d R/\Sort.SortedIn Sort.ltInt a b R)
   (fun g=>g.2.1-g.1) (a,b,limit,.v (.bool true),.v (.bool true),d) ⟨aJ _,hab,aJ _,aJ _,.inl rfl,.inl rfl,hn,hBel,fun R h1 h2=>⟨h1,h2⟩⟩ ?_ ?_
  ·(exact leA)
  rintro⟨a1,b1,l1,vb,vp,e⟩ ⟨ha1,hab1,hb1,hl1,hvb,hvp,hes,hB,hfin⟩
  simp only at ha1 hab1 hb1 hl1 hvb hvp hes hB hfin⊢
  have hd1:((b1:Int)-a1<=12)=(b1-a1<=12):=by apply propext;omega
  rcases aD 12 (b1-a1)with h12|h12
  ·rcases dJ l1 with h0|h0
   ·subst h0
    (repeat' ((conv=>whnf);first|(with_reducible refine csHeap' hes a1 b1 hsz zo zo fun r h1 h2=>?_)|refine zG ?_|apply zA|intro h|exact zT));all_goals conv=>whnf
    exact hK r (hfin r h1 h2).1 (hfin r h1 h2).2
   ·rcases hvb with rfl|⟨c,rfl⟩<;>rcases hvp with rfl|⟨c',rfl⟩
    ·have hl1:(l1:Int)-1=((l1-1:Nat):Int):=by omega
     (repeat' ((conv=>whnf);first|refine zG ?_|apply zA|intro h|exact zT));all_goals conv=>whnf
     refine gU (Nat×Array Int) (fun g=>⟨1,[(0,rowZ g.2)],[(0,.os 0 1 0 n),(1,.v (.int .i64 a1)),(2,.v (.int .i64 b1)),(3,.v (.int .i64 g.1)),(8,.v (.bool true)),(9,.v (.bool true)),(10,.v (.int .i64 ((b1:Int)-a1)))]⟩) (fun g=>g.1<=limit/\Sort.PermIn a1 b1 e g.2) ?_ ?_
     ·(repeat' ((conv=>whnf);first|(with_reducible refine csBrk' hes a1 b1 hsz zo zo fun e1 he1=>?_)|refine zG ?_|apply zA|intro h|exact zT));all_goals conv=>whnf
      all_goals first
       |(refine⟨(l1-1,e1),⟨by dsimp only;omega,he1⟩,?_⟩
         dsimp only
         rw[<-hl1]
         (exact leA))
       |(refine⟨(l1,e),⟨by assumption,Sort.permIn_refl _ _ _⟩,?_⟩
         (exact leA))
     rintro⟨l2,e1⟩ ⟨hl2,he1⟩
     simp only at hl2 he1⊢
     have he1s:e1.size=n:=he1.1.trans hes
     (repeat' ((conv=>whnf);first|(with_reducible refine csPiv' he1s a1 b1 hsz zo zo fun p hh hp1 hp2=>?_)|refine zG ?_|apply zA|intro h|exact zT));all_goals conv=>whnf
     refine gU (Nat×Int×Array Int) (fun g=>⟨1,[(0,rowZ g.2.2)],[(0,.os 0 1 0 n),(1,.v (.int .i64 a1)),(2,.v (.int .i64 b1)),(3,.v (.int .i64 l2)),(8,.v (.bool true)),(9,.v (.bool true)),(10,.v (.int .i64 ((b1:Int)-a1))),(11,.v (.int .i64 g.1)),(12,.v (.int .i64 g.2.1))]⟩) (fun g=>a1<=g.1/\g.1<b1/\Sort.PermIn a1 b1 e g.2.2) ?_ ?_
     ·(repeat' ((conv=>whnf);first|(with_reducible refine csRev' he1s a1 b1 hsz zo zo fun e2 he2=>?_)|refine zG ?_|apply zA|intro h|exact zT));all_goals conv=>whnf
      all_goals first
       |(refine⟨((b1-1)-(p-a1),1,e2),⟨by dsimp only;omega,by dsimp only;omega,Sort.permIn_trans _ _ _ _ _ he1 he2⟩,?_⟩
         dsimp only
         rw[show(((b1-1)-(p-a1):Nat):Int)=(b1:Int)-1-((p:Int)-a1) by omega]
         (exact leA))
       |(refine⟨(p,hh,e1),⟨hp1,hp2,he1⟩,?_⟩
         (exact leA))
     rintro⟨p2,h2,e2⟩ ⟨hp21,hp22,he2⟩
     simp only at hp21 hp22 he2⊢
     clear he1s he1 e1 hp1 hp2 p hh
     have he2s:e2.size=n:=he2.1.trans hes
     have hB2:=hB.perm zo he2
     refine gU (Array Int) (fun g=>⟨1,[(0,rowZ g)],[(0,.os 0 1 0 n),(1,.v (.int .i64 a1)),(2,.v (.int .i64 b1)),(3,.v (.int .i64 l2)),(8,.v (.bool true)),(9,.v (.bool true)),(10,.v (.int .i64 ((b1:Int)-a1))),(11,.v (.int .i64 p2))]⟩) (fun g=>Sort.PermIn a1 b1 e g) ?_ ?_
     ·have stay:∃g:Array Int,Sort.PermIn a1 b1 e g/\g=e2:=⟨e2,he2,rfl⟩
      have pins:∀{K:KT},(∀e (r:Bool),Sort.PermIn a1 b1 e2 e->(r=true->Sort.SortedIn Sort.ltInt a1 b1 e)->K (.sb r) [rowZ e])->AC 352 [.os 0 1 0 n,.v (.int .i64 a1),.v (.int .i64 b1)] [rowZ e2] K:=fun h=>csPins' he2s a1 b1 hsz zo zo hB2 h
      (repeat' ((conv=>whnf);first|(with_reducible refine pins fun e3 r he3 hr=>?_)|refine zG ?_|apply zA|intro h|exact zT));all_goals conv=>whnf
      all_goals first
       |exact hK e3 (hfin e3 (Sort.permIn_trans _ _ _ _ _ he2 he3) (hr zp)).1 (hfin e3 (Sort.permIn_trans _ _ _ _ _ he2 he3) (hr zp)).2
       |(refine⟨e3,Sort.permIn_trans _ _ _ _ _ he2 he3,?_⟩
         (exact leA))
       |(refine⟨e2,he2,?_⟩
         (exact leA))
     intro e3 he3
     have he3s:e3.size=n:=he3.1.trans hes
     have hB3:=hB.perm zo he3
     have hw8:∀{K:Int->Prop},K (((b1-a1)/8:Nat):Int)->Wr .i64 (((b1:Int)-a1).tdiv 8) K:=fun h=>wr_i64 (by rw[dF zo];omega) zo zo h
     have n2:p2<n:=by omega
     have n2':p2<e3.size:=by omega
     have part:∀{Q:Prop},Q->Q:=fun h=>h
     rcases dJ a1 with ha0|ha0
     ·(repeat' ((conv=>whnf);first|refine zG ?_|apply zA|intro h|exact zT));all_goals conv=>whnf
      refine csPart' he3s a1 b1 hsz p2 hp21 hp22 zo hB3 fun e4 mid r k1 k2 k3 k4 k5 k6 k7=>?_
      have hr1:∀{K:KT},(∀L,Sort.PermIn a1 mid e4 L->Sort.SortedIn Sort.ltInt a1 mid L->K (.tup []) [rowZ L])->AC 337 [.os 0 1 0 n,.v (.int .i64 a1),.v (.int .i64 mid),.v (.int .i64 l2)] [rowZ e4] K:=fun h=>ih n e4 a1 mid l2 zo k3 k1 zo hsz zo k4 h
      have hr2:∀{K:KT},(∀L,Sort.PermIn (mid+1) b1 e4 L->Sort.SortedIn Sort.ltInt (mid+1) b1 L->K (.tup []) [rowZ L])->AC 337 [.os 0 1 0 n,.v (.int .i64 ((mid:Int)+1)),.v (.int .i64 b1),.v (.int .i64 l2)] [rowZ e4] K:=fun h=>by
       rw[show(mid:Int)+1=((mid+1:Nat):Int) by omega]
       exact ih n e4 (mid+1) b1 l2 zo k3 zo zo hsz zo k5 h
      (repeat' ((conv=>whnf);first|(with_reducible first|refine hw8 ?_|refine hr1 fun L hL hs=>?_|refine hr2 fun L hL hs=>?_)|refine zG ?_|apply zA|intro h|exact zT));all_goals conv=>whnf
      ·obtain⟨m1,m2⟩:=k6 L hL hs
       refine⟨(mid+1,b1,l2,.sb (decide ((((b1-a1)/8:Nat):Int)<=(mid:Int)-a1)),.sb r,L),⟨by dsimp only;omega,by dsimp only;omega,by dsimp only;omega,by dsimp only;assumption,.inr ⟨_,rfl⟩,.inr ⟨_,rfl⟩,hL.1.trans k3,m1,fun R q1 q2=>?_⟩,by dsimp only;omega,?_⟩
       ·obtain⟨q3,q4⟩:=m2 R q1 q2
        exact hfin R (Sort.permIn_trans _ _ _ _ _ he3 q3) q4
       ·dsimp only
        rw[show((mid+1:Nat):Int)=(mid:Int)+1 by omega]
        (exact leA)
      ·obtain⟨m1,m2⟩:=k7 L hL hs
       refine⟨(a1,mid,l2,.sb (decide ((((b1-a1)/8:Nat):Int)<=(b1:Int)-mid)),.sb r,L),⟨by dsimp only;omega,by dsimp only;omega,by dsimp only;omega,by dsimp only;assumption,.inr ⟨_,rfl⟩,.inr ⟨_,rfl⟩,hL.1.trans k3,m1,fun R q1 q2=>?_⟩,by dsimp only;omega,?_⟩
       ·obtain⟨q3,q4⟩:=m2 R q1 q2
        exact hfin R (Sort.permIn_trans _ _ _ _ _ he3 q3) q4
       ·(exact leA)
     ·have n1':a1-1<e3.size:=by omega
      (repeat' ((conv=>whnf);first|(with_reducible refine csLess _ _ ?_)|(refine gS (a1-1) zo zo ?_)|(with_reducible first|refine hU n2 ?_|refine ix_z n1' ?_|refine ix_z n2' ?_)|refine zG ?_|apply zA|intro h|exact zT));all_goals conv=>whnf
      ·refine csPart' he3s a1 b1 hsz p2 hp21 hp22 zo hB3 fun e4 mid r k1 k2 k3 k4 k5 k6 k7=>?_
       have hr1:∀{K:KT},(∀L,Sort.PermIn a1 mid e4 L->Sort.SortedIn Sort.ltInt a1 mid L->K (.tup []) [rowZ L])->AC 337 [.os 0 1 0 n,.v (.int .i64 a1),.v (.int .i64 mid),.v (.int .i64 l2)] [rowZ e4] K:=fun h=>ih n e4 a1 mid l2 zo k3 k1 zo hsz zo k4 h
       have hr2:∀{K:KT},(∀L,Sort.PermIn (mid+1) b1 e4 L->Sort.SortedIn Sort.ltInt (mid+1) b1 L->K (.tup []) [rowZ L])->AC 337 [.os 0 1 0 n,.v (.int .i64 ((mid:Int)+1)),.v (.int .i64 b1),.v (.int .i64 l2)] [rowZ e4] K:=fun h=>by
        rw[show(mid:Int)+1=((mid+1:Nat):Int) by omega]
        exact ih n e4 (mid+1) b1 l2 zo k3 zo zo hsz zo k5 h
       (repeat' ((conv=>whnf);first|(with_reducible first|refine hw8 ?_|refine hr1 fun L hL hs=>?_|refine hr2 fun L hL hs=>?_)|refine zG ?_|apply zA|intro h|exact zT));all_goals conv=>whnf
       ·obtain⟨m1,m2⟩:=k6 L hL hs
        refine⟨(mid+1,b1,l2,.sb (decide ((((b1-a1)/8:Nat):Int)<=(mid:Int)-a1)),.sb r,L),⟨by dsimp only;omega,by dsimp only;omega,by dsimp only;omega,by dsimp only;assumption,.inr ⟨_,rfl⟩,.inr ⟨_,rfl⟩,hL.1.trans k3,m1,fun R q1 q2=>?_⟩,by dsimp only;omega,?_⟩
        ·obtain⟨q3,q4⟩:=m2 R q1 q2
         exact hfin R (Sort.permIn_trans _ _ _ _ _ he3 q3) q4
        ·dsimp only
         rw[show((mid+1:Nat):Int)=(mid:Int)+1 by omega]
         (exact leA)
       ·obtain⟨m1,m2⟩:=k7 L hL hs
        refine⟨(a1,mid,l2,.sb (decide ((((b1-a1)/8:Nat):Int)<=(b1:Int)-mid)),.sb r,L),⟨by dsimp only;omega,by dsimp only;omega,by dsimp only;omega,by dsimp only;assumption,.inr ⟨_,rfl⟩,.inr ⟨_,rfl⟩,hL.1.trans k3,m1,fun R q1 q2=>?_⟩,by dsimp only;omega,?_⟩
        ·obtain⟨q3,q4⟩:=m2 R q1 q2
         exact hfin R (Sort.permIn_trans _ _ _ _ _ he3 q3) q4
        ·(exact leA)
      ·refine csPeq' he3s a1 b1 hsz p2 hp21 hp22 zo ha0 hB3 zp fun e4 mid k1 k2 k3 k4 k5=>?_
       (repeat' ((conv=>whnf);first|refine zG ?_|apply zA|intro h|exact zT));all_goals conv=>whnf
       refine⟨(mid,b1,l2,.v (.bool true),.v (.bool true),e4),⟨by dsimp only;omega,by dsimp only;omega,by dsimp only;omega,by dsimp only;assumption,.inl rfl,.inl rfl,k3,k4,fun R q1 q2=>?_⟩,by dsimp only;omega,?_⟩
       ·obtain⟨q3,q4⟩:=k5 R q1 q2
        exact hfin R (Sort.permIn_trans _ _ _ _ _ he3 q3) q4
       ·(exact leA)
    ·have hl1:(l1:Int)-1=((l1-1:Nat):Int):=by omega
     (repeat' ((conv=>whnf);first|refine zG ?_|apply zA|intro h|exact zT));all_goals conv=>whnf
     refine gU (Nat×Array Int) (fun g=>⟨1,[(0,rowZ g.2)],[(0,.os 0 1 0 n),(1,.v (.int .i64 a1)),(2,.v (.int .i64 b1)),(3,.v (.int .i64 g.1)),(8,.v (.bool true)),(9,.sb c'),(10,.v (.int .i64 ((b1:Int)-a1)))]⟩) (fun g=>g.1<=limit/\Sort.PermIn a1 b1 e g.2) ?_ ?_
     ·(repeat' ((conv=>whnf);first|(with_reducible refine csBrk' hes a1 b1 hsz zo zo fun e1 he1=>?_)|refine zG ?_|apply zA|intro h|exact zT));all_goals conv=>whnf
      all_goals first
       |(refine⟨(l1-1,e1),⟨by dsimp only;omega,he1⟩,?_⟩
         dsimp only
         rw[<-hl1]
         (exact leA))
       |(refine⟨(l1,e),⟨by assumption,Sort.permIn_refl _ _ _⟩,?_⟩
         (exact leA))
     rintro⟨l2,e1⟩ ⟨hl2,he1⟩
     simp only at hl2 he1⊢
     have he1s:e1.size=n:=he1.1.trans hes
     (repeat' ((conv=>whnf);first|(with_reducible refine csPiv' he1s a1 b1 hsz zo zo fun p hh hp1 hp2=>?_)|refine zG ?_|apply zA|intro h|exact zT));all_goals conv=>whnf
     refine gU (Nat×Int×Array Int) (fun g=>⟨1,[(0,rowZ g.2.2)],[(0,.os 0 1 0 n),(1,.v (.int .i64 a1)),(2,.v (.int .i64 b1)),(3,.v (.int .i64 l2)),(8,.v (.bool true)),(9,.sb c'),(10,.v (.int .i64 ((b1:Int)-a1))),(11,.v (.int .i64 g.1)),(12,.v (.int .i64 g.2.1))]⟩) (fun g=>a1<=g.1/\g.1<b1/\Sort.PermIn a1 b1 e g.2.2) ?_ ?_
     ·(repeat' ((conv=>whnf);first|(with_reducible refine csRev' he1s a1 b1 hsz zo zo fun e2 he2=>?_)|refine zG ?_|apply zA|intro h|exact zT));all_goals conv=>whnf
      all_goals first
       |(refine⟨((b1-1)-(p-a1),1,e2),⟨by dsimp only;omega,by dsimp only;omega,Sort.permIn_trans _ _ _ _ _ he1 he2⟩,?_⟩
         dsimp only
         rw[show(((b1-1)-(p-a1):Nat):Int)=(b1:Int)-1-((p:Int)-a1) by omega]
         (exact leA))
       |(refine⟨(p,hh,e1),⟨hp1,hp2,he1⟩,?_⟩
         (exact leA))
     rintro⟨p2,h2,e2⟩ ⟨hp21,hp22,he2⟩
     simp only at hp21 hp22 he2⊢
     clear he1s he1 e1 hp1 hp2 p hh
     have he2s:e2.size=n:=he2.1.trans hes
     have hB2:=hB.perm zo he2
     refine gU (Array Int) (fun g=>⟨1,[(0,rowZ g)],[(0,.os 0 1 0 n),(1,.v (.int .i64 a1)),(2,.v (.int .i64 b1)),(3,.v (.int .i64 l2)),(8,.v (.bool true)),(9,.sb c'),(10,.v (.int .i64 ((b1:Int)-a1))),(11,.v (.int .i64 p2))]⟩) (fun g=>Sort.PermIn a1 b1 e g) ?_ ?_
     ·have stay:∃g:Array Int,Sort.PermIn a1 b1 e g/\g=e2:=⟨e2,he2,rfl⟩
      have pins:∀{K:KT},(∀e (r:Bool),Sort.PermIn a1 b1 e2 e->(r=true->Sort.SortedIn Sort.ltInt a1 b1 e)->K (.sb r) [rowZ e])->AC 352 [.os 0 1 0 n,.v (.int .i64 a1),.v (.int .i64 b1)] [rowZ e2] K:=fun h=>csPins' he2s a1 b1 hsz zo zo hB2 h
      (repeat' ((conv=>whnf);first|(with_reducible refine pins fun e3 r he3 hr=>?_)|refine zG ?_|apply zA|intro h|exact zT));all_goals conv=>whnf
      all_goals first
       |exact hK e3 (hfin e3 (Sort.permIn_trans _ _ _ _ _ he2 he3) (hr zp)).1 (hfin e3 (Sort.permIn_trans _ _ _ _ _ he2 he3) (hr zp)).2
       |(refine⟨e3,Sort.permIn_trans _ _ _ _ _ he2 he3,?_⟩
         (exact leA))
       |(refine⟨e2,he2,?_⟩
         (exact leA))
     intro e3 he3
     have he3s:e3.size=n:=he3.1.trans hes
     have hB3:=hB.perm zo he3
     have hw8:∀{K:Int->Prop},K (((b1-a1)/8:Nat):Int)->Wr .i64 (((b1:Int)-a1).tdiv 8) K:=fun h=>wr_i64 (by rw[dF zo];omega) zo zo h
     have n2:p2<n:=by omega
     have n2':p2<e3.size:=by omega
     have part:∀{Q:Prop},Q->Q:=fun h=>h
     rcases dJ a1 with ha0|ha0
     ·(repeat' ((conv=>whnf);first|refine zG ?_|apply zA|intro h|exact zT));all_goals conv=>whnf
      refine csPart' he3s a1 b1 hsz p2 hp21 hp22 zo hB3 fun e4 mid r k1 k2 k3 k4 k5 k6 k7=>?_
      have hr1:∀{K:KT},(∀L,Sort.PermIn a1 mid e4 L->Sort.SortedIn Sort.ltInt a1 mid L->K (.tup []) [rowZ L])->AC 337 [.os 0 1 0 n,.v (.int .i64 a1),.v (.int .i64 mid),.v (.int .i64 l2)] [rowZ e4] K:=fun h=>ih n e4 a1 mid l2 zo k3 k1 zo hsz zo k4 h
      have hr2:∀{K:KT},(∀L,Sort.PermIn (mid+1) b1 e4 L->Sort.SortedIn Sort.ltInt (mid+1) b1 L->K (.tup []) [rowZ L])->AC 337 [.os 0 1 0 n,.v (.int .i64 ((mid:Int)+1)),.v (.int .i64 b1),.v (.int .i64 l2)] [rowZ e4] K:=fun h=>by
       rw[show(mid:Int)+1=((mid+1:Nat):Int) by omega]
       exact ih n e4 (mid+1) b1 l2 zo k3 zo zo hsz zo k5 h
      (repeat' ((conv=>whnf);first|(with_reducible first|refine hw8 ?_|refine hr1 fun L hL hs=>?_|refine hr2 fun L hL hs=>?_)|refine zG ?_|apply zA|intro h|exact zT));all_goals conv=>whnf
      ·obtain⟨m1,m2⟩:=k6 L hL hs
       refine⟨(mid+1,b1,l2,.sb (decide ((((b1-a1)/8:Nat):Int)<=(mid:Int)-a1)),.sb r,L),⟨by dsimp only;omega,by dsimp only;omega,by dsimp only;omega,by dsimp only;assumption,.inr ⟨_,rfl⟩,.inr ⟨_,rfl⟩,hL.1.trans k3,m1,fun R q1 q2=>?_⟩,by dsimp only;omega,?_⟩
       ·obtain⟨q3,q4⟩:=m2 R q1 q2
        exact hfin R (Sort.permIn_trans _ _ _ _ _ he3 q3) q4
       ·dsimp only
        rw[show((mid+1:Nat):Int)=(mid:Int)+1 by omega]
        (exact leA)
      ·obtain⟨m1,m2⟩:=k7 L hL hs
       refine⟨(a1,mid,l2,.sb (decide ((((b1-a1)/8:Nat):Int)<=(b1:Int)-mid)),.sb r,L),⟨by dsimp only;omega,by dsimp only;omega,by dsimp only;omega,by dsimp only;assumption,.inr ⟨_,rfl⟩,.inr ⟨_,rfl⟩,hL.1.trans k3,m1,fun R q1 q2=>?_⟩,by dsimp only;omega,?_⟩
       ·obtain⟨q3,q4⟩:=m2 R q1 q2
        exact hfin R (Sort.permIn_trans _ _ _ _ _ he3 q3) q4
       ·(exact leA)
     ·have n1':a1-1<e3.size:=by omega
      (repeat' ((conv=>whnf);first|(with_reducible refine csLess _ _ ?_)|(refine gS (a1-1) zo zo ?_)|(with_reducible first|refine hU n2 ?_|refine ix_z n1' ?_|refine ix_z n2' ?_)|refine zG ?_|apply zA|intro h|exact zT));all_goals conv=>whnf
      ·refine csPart' he3s a1 b1 hsz p2 hp21 hp22 zo hB3 fun e4 mid r k1 k2 k3 k4 k5 k6 k7=>?_
       have hr1:∀{K:KT},(∀L,Sort.PermIn a1 mid e4 L->Sort.SortedIn Sort.ltInt a1 mid L->K (.tup []) [rowZ L])->AC 337 [.os 0 1 0 n,.v (.int .i64 a1),.v (.int .i64 mid),.v (.int .i64 l2)] [rowZ e4] K:=fun h=>ih n e4 a1 mid l2 zo k3 k1 zo hsz zo k4 h
       have hr2:∀{K:KT},(∀L,Sort.PermIn (mid+1) b1 e4 L->Sort.SortedIn Sort.ltInt (mid+1) b1 L->K (.tup []) [rowZ L])->AC 337 [.os 0 1 0 n,.v (.int .i64 ((mid:Int)+1)),.v (.int .i64 b1),.v (.int .i64 l2)] [rowZ e4] K:=fun h=>by
        rw[show(mid:Int)+1=((mid+1:Nat):Int) by omega]
        exact ih n e4 (mid+1) b1 l2 zo k3 zo zo hsz zo k5 h
       (repeat' ((conv=>whnf);first|(with_reducible first|refine hw8 ?_|refine hr1 fun L hL hs=>?_|refine hr2 fun L hL hs=>?_)|refine zG ?_|apply zA|intro h|exact zT));all_goals conv=>whnf
       ·obtain⟨m1,m2⟩:=k6 L hL hs
        refine⟨(mid+1,b1,l2,.sb (decide ((((b1-a1)/8:Nat):Int)<=(mid:Int)-a1)),.sb r,L),⟨by dsimp only;omega,by dsimp only;omega,by dsimp only;omega,by dsimp only;assumption,.inr ⟨_,rfl⟩,.inr ⟨_,rfl⟩,hL.1.trans k3,m1,fun R q1 q2=>?_⟩,by dsimp only;omega,?_⟩
        ·obtain⟨q3,q4⟩:=m2 R q1 q2
         exact hfin R (Sort.permIn_trans _ _ _ _ _ he3 q3) q4
        ·dsimp only
         rw[show((mid+1:Nat):Int)=(mid:Int)+1 by omega]
         (exact leA)
       ·obtain⟨m1,m2⟩:=k7 L hL hs
        refine⟨(a1,mid,l2,.sb (decide ((((b1-a1)/8:Nat):Int)<=(b1:Int)-mid)),.sb r,L),⟨by dsimp only;omega,by dsimp only;omega,by dsimp only;omega,by dsimp only;assumption,.inr ⟨_,rfl⟩,.inr ⟨_,rfl⟩,hL.1.trans k3,m1,fun R q1 q2=>?_⟩,by dsimp only;omega,?_⟩
        ·obtain⟨q3,q4⟩:=m2 R q1 q2
         exact hfin R (Sort.permIn_trans _ _ _ _ _ he3 q3) q4
        ·(exact leA)
      ·refine csPeq' he3s a1 b1 hsz p2 hp21 hp22 zo ha0 hB3 zp fun e4 mid k1 k2 k3 k4 k5=>?_
       (repeat' ((conv=>whnf);first|refine zG ?_|apply zA|intro h|exact zT));all_goals conv=>whnf
       refine⟨(mid,b1,l2,.v (.bool true),.sb c',e4),⟨by dsimp only;omega,by dsimp only;omega,by dsimp only;omega,by dsimp only;assumption,.inl rfl,.inr ⟨_,rfl⟩,k3,k4,fun R q1 q2=>?_⟩,by dsimp only;omega,?_⟩
       ·obtain⟨q3,q4⟩:=k5 R q1 q2
        exact hfin R (Sort.permIn_trans _ _ _ _ _ he3 q3) q4
       ·(exact leA)
    ·have hl1:(l1:Int)-1=((l1-1:Nat):Int):=by omega
     (repeat' ((conv=>whnf);first|refine zG ?_|apply zA|intro h|exact zT));all_goals conv=>whnf
     refine gU (Nat×Array Int) (fun g=>⟨1,[(0,rowZ g.2)],[(0,.os 0 1 0 n),(1,.v (.int .i64 a1)),(2,.v (.int .i64 b1)),(3,.v (.int .i64 g.1)),(8,.sb c),(9,.v (.bool true)),(10,.v (.int .i64 ((b1:Int)-a1)))]⟩) (fun g=>g.1<=limit/\Sort.PermIn a1 b1 e g.2) ?_ ?_
     ·(repeat' ((conv=>whnf);first|(with_reducible refine csBrk' hes a1 b1 hsz zo zo fun e1 he1=>?_)|refine zG ?_|apply zA|intro h|exact zT));all_goals conv=>whnf
      all_goals first
       |(refine⟨(l1-1,e1),⟨by dsimp only;omega,he1⟩,?_⟩
         dsimp only
         rw[<-hl1]
         (exact leA))
       |(refine⟨(l1,e),⟨by assumption,Sort.permIn_refl _ _ _⟩,?_⟩
         (exact leA))
     rintro⟨l2,e1⟩ ⟨hl2,he1⟩
     simp only at hl2 he1⊢
     have he1s:e1.size=n:=he1.1.trans hes
     (repeat' ((conv=>whnf);first|(with_reducible refine csPiv' he1s a1 b1 hsz zo zo fun p hh hp1 hp2=>?_)|refine zG ?_|apply zA|intro h|exact zT));all_goals conv=>whnf
     refine gU (Nat×Int×Array Int) (fun g=>⟨1,[(0,rowZ g.2.2)],[(0,.os 0 1 0 n),(1,.v (.int .i64 a1)),(2,.v (.int .i64 b1)),(3,.v (.int .i64 l2)),(8,.sb c),(9,.v (.bool true)),(10,.v (.int .i64 ((b1:Int)-a1))),(11,.v (.int .i64 g.1)),(12,.v (.int .i64 g.2.1))]⟩) (fun g=>a1<=g.1/\g.1<b1/\Sort.PermIn a1 b1 e g.2.2) ?_ ?_
     ·(repeat' ((conv=>whnf);first|(with_reducible refine csRev' he1s a1 b1 hsz zo zo fun e2 he2=>?_)|refine zG ?_|apply zA|intro h|exact zT));all_goals conv=>whnf
      all_goals first
       |(refine⟨((b1-1)-(p-a1),1,e2),⟨by dsimp only;omega,by dsimp only;omega,Sort.permIn_trans _ _ _ _ _ he1 he2⟩,?_⟩
         dsimp only
         rw[show(((b1-1)-(p-a1):Nat):Int)=(b1:Int)-1-((p:Int)-a1) by omega]
         (exact leA))
       |(refine⟨(p,hh,e1),⟨hp1,hp2,he1⟩,?_⟩
         (exact leA))
     rintro⟨p2,h2,e2⟩ ⟨hp21,hp22,he2⟩
     simp only at hp21 hp22 he2⊢
     clear he1s he1 e1 hp1 hp2 p hh
     have he2s:e2.size=n:=he2.1.trans hes
     have hB2:=hB.perm zo he2
     refine gU (Array Int) (fun g=>⟨1,[(0,rowZ g)],[(0,.os 0 1 0 n),(1,.v (.int .i64 a1)),(2,.v (.int .i64 b1)),(3,.v (.int .i64 l2)),(8,.sb c),(9,.v (.bool true)),(10,.v (.int .i64 ((b1:Int)-a1))),(11,.v (.int .i64 p2))]⟩) (fun g=>Sort.PermIn a1 b1 e g) ?_ ?_
     ·have stay:∃g:Array Int,Sort.PermIn a1 b1 e g/\g=e2:=⟨e2,he2,rfl⟩
      have pins:∀{K:KT},(∀e (r:Bool),Sort.PermIn a1 b1 e2 e->(r=true->Sort.SortedIn Sort.ltInt a1 b1 e)->K (.sb r) [rowZ e])->AC 352 [.os 0 1 0 n,.v (.int .i64 a1),.v (.int .i64 b1)] [rowZ e2] K:=fun h=>csPins' he2s a1 b1 hsz zo zo hB2 h
      (repeat' ((conv=>whnf);first|(with_reducible refine pins fun e3 r he3 hr=>?_)|refine zG ?_|apply zA|intro h|exact zT));all_goals conv=>whnf
      all_goals first
       |exact hK e3 (hfin e3 (Sort.permIn_trans _ _ _ _ _ he2 he3) (hr zp)).1 (hfin e3 (Sort.permIn_trans _ _ _ _ _ he2 he3) (hr zp)).2
       |(refine⟨e3,Sort.permIn_trans _ _ _ _ _ he2 he3,?_⟩
         (exact leA))
       |(refine⟨e2,he2,?_⟩
         (exact leA))
     intro e3 he3
     have he3s:e3.size=n:=he3.1.trans hes
     have hB3:=hB.perm zo he3
     have hw8:∀{K:Int->Prop},K (((b1-a1)/8:Nat):Int)->Wr .i64 (((b1:Int)-a1).tdiv 8) K:=fun h=>wr_i64 (by rw[dF zo];omega) zo zo h
     have n2:p2<n:=by omega
     have n2':p2<e3.size:=by omega
     have part:∀{Q:Prop},Q->Q:=fun h=>h
     rcases dJ a1 with ha0|ha0
     ·(repeat' ((conv=>whnf);first|refine zG ?_|apply zA|intro h|exact zT));all_goals conv=>whnf
      refine csPart' he3s a1 b1 hsz p2 hp21 hp22 zo hB3 fun e4 mid r k1 k2 k3 k4 k5 k6 k7=>?_
      have hr1:∀{K:KT},(∀L,Sort.PermIn a1 mid e4 L->Sort.SortedIn Sort.ltInt a1 mid L->K (.tup []) [rowZ L])->AC 337 [.os 0 1 0 n,.v (.int .i64 a1),.v (.int .i64 mid),.v (.int .i64 l2)] [rowZ e4] K:=fun h=>ih n e4 a1 mid l2 zo k3 k1 zo hsz zo k4 h
      have hr2:∀{K:KT},(∀L,Sort.PermIn (mid+1) b1 e4 L->Sort.SortedIn Sort.ltInt (mid+1) b1 L->K (.tup []) [rowZ L])->AC 337 [.os 0 1 0 n,.v (.int .i64 ((mid:Int)+1)),.v (.int .i64 b1),.v (.int .i64 l2)] [rowZ e4] K:=fun h=>by
       rw[show(mid:Int)+1=((mid+1:Nat):Int) by omega]
       exact ih n e4 (mid+1) b1 l2 zo k3 zo zo hsz zo k5 h
      (repeat' ((conv=>whnf);first|(with_reducible first|refine hw8 ?_|refine hr1 fun L hL hs=>?_|refine hr2 fun L hL hs=>?_)|refine zG ?_|apply zA|intro h|exact zT));all_goals conv=>whnf
      ·obtain⟨m1,m2⟩:=k6 L hL hs
       refine⟨(mid+1,b1,l2,.sb (decide ((((b1-a1)/8:Nat):Int)<=(mid:Int)-a1)),.sb r,L),⟨by dsimp only;omega,by dsimp only;omega,by dsimp only;omega,by dsimp only;assumption,.inr ⟨_,rfl⟩,.inr ⟨_,rfl⟩,hL.1.trans k3,m1,fun R q1 q2=>?_⟩,by dsimp only;omega,?_⟩
       ·obtain⟨q3,q4⟩:=m2 R q1 q2
        exact hfin R (Sort.permIn_trans _ _ _ _ _ he3 q3) q4
       ·dsimp only
        rw[show((mid+1:Nat):Int)=(mid:Int)+1 by omega]
        (exact leA)
      ·obtain⟨m1,m2⟩:=k7 L hL hs
       refine⟨(a1,mid,l2,.sb (decide ((((b1-a1)/8:Nat):Int)<=(b1:Int)-mid)),.sb r,L),⟨by dsimp only;omega,by dsimp only;omega,by dsimp only;omega,by dsimp only;assumption,.inr ⟨_,rfl⟩,.inr ⟨_,rfl⟩,hL.1.trans k3,m1,fun R q1 q2=>?_⟩,by dsimp only;omega,?_⟩
       ·obtain⟨q3,q4⟩:=m2 R q1 q2
        exact hfin R (Sort.permIn_trans _ _ _ _ _ he3 q3) q4
       ·(exact leA)
     ·have n1':a1-1<e3.size:=by omega
      (repeat' ((conv=>whnf);first|(with_reducible refine csLess _ _ ?_)|(refine gS (a1-1) zo zo ?_)|(with_reducible first|refine hU n2 ?_|refine ix_z n1' ?_|refine ix_z n2' ?_)|refine zG ?_|apply zA|intro h|exact zT));all_goals conv=>whnf
      ·refine csPart' he3s a1 b1 hsz p2 hp21 hp22 zo hB3 fun e4 mid r k1 k2 k3 k4 k5 k6 k7=>?_
       have hr1:∀{K:KT},(∀L,Sort.PermIn a1 mid e4 L->Sort.SortedIn Sort.ltInt a1 mid L->K (.tup []) [rowZ L])->AC 337 [.os 0 1 0 n,.v (.int .i64 a1),.v (.int .i64 mid),.v (.int .i64 l2)] [rowZ e4] K:=fun h=>ih n e4 a1 mid l2 zo k3 k1 zo hsz zo k4 h
       have hr2:∀{K:KT},(∀L,Sort.PermIn (mid+1) b1 e4 L->Sort.SortedIn Sort.ltInt (mid+1) b1 L->K (.tup []) [rowZ L])->AC 337 [.os 0 1 0 n,.v (.int .i64 ((mid:Int)+1)),.v (.int .i64 b1),.v (.int .i64 l2)] [rowZ e4] K:=fun h=>by
        rw[show(mid:Int)+1=((mid+1:Nat):Int) by omega]
        exact ih n e4 (mid+1) b1 l2 zo k3 zo zo hsz zo k5 h
       (repeat' ((conv=>whnf);first|(with_reducible first|refine hw8 ?_|refine hr1 fun L hL hs=>?_|refine hr2 fun L hL hs=>?_)|refine zG ?_|apply zA|intro h|exact zT));all_goals conv=>whnf
       ·obtain⟨m1,m2⟩:=k6 L hL hs
        refine⟨(mid+1,b1,l2,.sb (decide ((((b1-a1)/8:Nat):Int)<=(mid:Int)-a1)),.sb r,L),⟨by dsimp only;omega,by dsimp only;omega,by dsimp only;omega,by dsimp only;assumption,.inr ⟨_,rfl⟩,.inr ⟨_,rfl⟩,hL.1.trans k3,m1,fun R q1 q2=>?_⟩,by dsimp only;omega,?_⟩
        ·obtain⟨q3,q4⟩:=m2 R q1 q2
         exact hfin R (Sort.permIn_trans _ _ _ _ _ he3 q3) q4
        ·dsimp only
         rw[show((mid+1:Nat):Int)=(mid:Int)+1 by omega]
         (exact leA)
       ·obtain⟨m1,m2⟩:=k7 L hL hs
        refine⟨(a1,mid,l2,.sb (decide ((((b1-a1)/8:Nat):Int)<=(b1:Int)-mid)),.sb r,L),⟨by dsimp only;omega,by dsimp only;omega,by dsimp only;omega,by dsimp only;assumption,.inr ⟨_,rfl⟩,.inr ⟨_,rfl⟩,hL.1.trans k3,m1,fun R q1 q2=>?_⟩,by dsimp only;omega,?_⟩
        ·obtain⟨q3,q4⟩:=m2 R q1 q2
         exact hfin R (Sort.permIn_trans _ _ _ _ _ he3 q3) q4
        ·(exact leA)
      ·refine csPeq' he3s a1 b1 hsz p2 hp21 hp22 zo ha0 hB3 zp fun e4 mid k1 k2 k3 k4 k5=>?_
       (repeat' ((conv=>whnf);first|refine zG ?_|apply zA|intro h|exact zT));all_goals conv=>whnf
       refine⟨(mid,b1,l2,.sb c,.v (.bool true),e4),⟨by dsimp only;omega,by dsimp only;omega,by dsimp only;omega,by dsimp only;assumption,.inr ⟨_,rfl⟩,.inl rfl,k3,k4,fun R q1 q2=>?_⟩,by dsimp only;omega,?_⟩
       ·obtain⟨q3,q4⟩:=k5 R q1 q2
        exact hfin R (Sort.permIn_trans _ _ _ _ _ he3 q3) q4
       ·(exact leA)
    ·have hl1:(l1:Int)-1=((l1-1:Nat):Int):=by omega
     (repeat' ((conv=>whnf);first|refine zG ?_|apply zA|intro h|exact zT));all_goals conv=>whnf
     refine gU (Nat×Array Int) (fun g=>⟨1,[(0,rowZ g.2)],[(0,.os 0 1 0 n),(1,.v (.int .i64 a1)),(2,.v (.int .i64 b1)),(3,.v (.int .i64 g.1)),(8,.sb c),(9,.sb c'),(10,.v (.int .i64 ((b1:Int)-a1)))]⟩) (fun g=>g.1<=limit/\Sort.PermIn a1 b1 e g.2) ?_ ?_
     ·(repeat' ((conv=>whnf);first|(with_reducible refine csBrk' hes a1 b1 hsz zo zo fun e1 he1=>?_)|refine zG ?_|apply zA|intro h|exact zT));all_goals conv=>whnf
      all_goals first
       |(refine⟨(l1-1,e1),⟨by dsimp only;omega,he1⟩,?_⟩
         dsimp only
         rw[<-hl1]
         (exact leA))
       |(refine⟨(l1,e),⟨by assumption,Sort.permIn_refl _ _ _⟩,?_⟩
         (exact leA))
     rintro⟨l2,e1⟩ ⟨hl2,he1⟩
     simp only at hl2 he1⊢
     have he1s:e1.size=n:=he1.1.trans hes
     (repeat' ((conv=>whnf);first|(with_reducible refine csPiv' he1s a1 b1 hsz zo zo fun p hh hp1 hp2=>?_)|refine zG ?_|apply zA|intro h|exact zT));all_goals conv=>whnf
     refine gU (Nat×Int×Array Int) (fun g=>⟨1,[(0,rowZ g.2.2)],[(0,.os 0 1 0 n),(1,.v (.int .i64 a1)),(2,.v (.int .i64 b1)),(3,.v (.int .i64 l2)),(8,.sb c),(9,.sb c'),(10,.v (.int .i64 ((b1:Int)-a1))),(11,.v (.int .i64 g.1)),(12,.v (.int .i64 g.2.1))]⟩) (fun g=>a1<=g.1/\g.1<b1/\Sort.PermIn a1 b1 e g.2.2) ?_ ?_
     ·(repeat' ((conv=>whnf);first|(with_reducible refine csRev' he1s a1 b1 hsz zo zo fun e2 he2=>?_)|refine zG ?_|apply zA|intro h|exact zT));all_goals conv=>whnf
      all_goals first
       |(refine⟨((b1-1)-(p-a1),1,e2),⟨by dsimp only;omega,by dsimp only;omega,Sort.permIn_trans _ _ _ _ _ he1 he2⟩,?_⟩
         dsimp only
         rw[show(((b1-1)-(p-a1):Nat):Int)=(b1:Int)-1-((p:Int)-a1) by omega]
         (exact leA))
       |(refine⟨(p,hh,e1),⟨hp1,hp2,he1⟩,?_⟩
         (exact leA))
     rintro⟨p2,h2,e2⟩ ⟨hp21,hp22,he2⟩
     simp only at hp21 hp22 he2⊢
     clear he1s he1 e1 hp1 hp2 p hh
     have he2s:e2.size=n:=he2.1.trans hes
     have hB2:=hB.perm zo he2
     refine gU (Array Int) (fun g=>⟨1,[(0,rowZ g)],[(0,.os 0 1 0 n),(1,.v (.int .i64 a1)),(2,.v (.int .i64 b1)),(3,.v (.int .i64 l2)),(8,.sb c),(9,.sb c'),(10,.v (.int .i64 ((b1:Int)-a1))),(11,.v (.int .i64 p2))]⟩) (fun g=>Sort.PermIn a1 b1 e g) ?_ ?_
     ·have stay:∃g:Array Int,Sort.PermIn a1 b1 e g/\g=e2:=⟨e2,he2,rfl⟩
      have pins:∀{K:KT},(∀e (r:Bool),Sort.PermIn a1 b1 e2 e->(r=true->Sort.SortedIn Sort.ltInt a1 b1 e)->K (.sb r) [rowZ e])->AC 352 [.os 0 1 0 n,.v (.int .i64 a1),.v (.int .i64 b1)] [rowZ e2] K:=fun h=>csPins' he2s a1 b1 hsz zo zo hB2 h
      (repeat' ((conv=>whnf);first|(with_reducible refine pins fun e3 r he3 hr=>?_)|refine zG ?_|apply zA|intro h|exact zT));all_goals conv=>whnf
      all_goals first
       |exact hK e3 (hfin e3 (Sort.permIn_trans _ _ _ _ _ he2 he3) (hr zp)).1 (hfin e3 (Sort.permIn_trans _ _ _ _ _ he2 he3) (hr zp)).2
       |(refine⟨e3,Sort.permIn_trans _ _ _ _ _ he2 he3,?_⟩
         (exact leA))
       |(refine⟨e2,he2,?_⟩
         (exact leA))
     intro e3 he3
     have he3s:e3.size=n:=he3.1.trans hes
     have hB3:=hB.perm zo he3
     have hw8:∀{K:Int->Prop},K (((b1-a1)/8:Nat):Int)->Wr .i64 (((b1:Int)-a1).tdiv 8) K:=fun h=>wr_i64 (by rw[dF zo];omega) zo zo h
     have n2:p2<n:=by omega
     have n2':p2<e3.size:=by omega
     have part:∀{Q:Prop},Q->Q:=fun h=>h
     rcases dJ a1 with ha0|ha0
     ·(repeat' ((conv=>whnf);first|refine zG ?_|apply zA|intro h|exact zT));all_goals conv=>whnf
      refine csPart' he3s a1 b1 hsz p2 hp21 hp22 zo hB3 fun e4 mid r k1 k2 k3 k4 k5 k6 k7=>?_
      have hr1:∀{K:KT},(∀L,Sort.PermIn a1 mid e4 L->Sort.SortedIn Sort.ltInt a1 mid L->K (.tup []) [rowZ L])->AC 337 [.os 0 1 0 n,.v (.int .i64 a1),.v (.int .i64 mid),.v (.int .i64 l2)] [rowZ e4] K:=fun h=>ih n e4 a1 mid l2 zo k3 k1 zo hsz zo k4 h
      have hr2:∀{K:KT},(∀L,Sort.PermIn (mid+1) b1 e4 L->Sort.SortedIn Sort.ltInt (mid+1) b1 L->K (.tup []) [rowZ L])->AC 337 [.os 0 1 0 n,.v (.int .i64 ((mid:Int)+1)),.v (.int .i64 b1),.v (.int .i64 l2)] [rowZ e4] K:=fun h=>by
       rw[show(mid:Int)+1=((mid+1:Nat):Int) by omega]
       exact ih n e4 (mid+1) b1 l2 zo k3 zo zo hsz zo k5 h
      (repeat' ((conv=>whnf);first|(with_reducible first|refine hw8 ?_|refine hr1 fun L hL hs=>?_|refine hr2 fun L hL hs=>?_)|refine zG ?_|apply zA|intro h|exact zT));all_goals conv=>whnf
      ·obtain⟨m1,m2⟩:=k6 L hL hs
       refine⟨(mid+1,b1,l2,.sb (decide ((((b1-a1)/8:Nat):Int)<=(mid:Int)-a1)),.sb r,L),⟨by dsimp only;omega,by dsimp only;omega,by dsimp only;omega,by dsimp only;assumption,.inr ⟨_,rfl⟩,.inr ⟨_,rfl⟩,hL.1.trans k3,m1,fun R q1 q2=>?_⟩,by dsimp only;omega,?_⟩
       ·obtain⟨q3,q4⟩:=m2 R q1 q2
        exact hfin R (Sort.permIn_trans _ _ _ _ _ he3 q3) q4
       ·dsimp only
        rw[show((mid+1:Nat):Int)=(mid:Int)+1 by omega]
        (exact leA)
      ·obtain⟨m1,m2⟩:=k7 L hL hs
       refine⟨(a1,mid,l2,.sb (decide ((((b1-a1)/8:Nat):Int)<=(b1:Int)-mid)),.sb r,L),⟨by dsimp only;omega,by dsimp only;omega,by dsimp only;omega,by dsimp only;assumption,.inr ⟨_,rfl⟩,.inr ⟨_,rfl⟩,hL.1.trans k3,m1,fun R q1 q2=>?_⟩,by dsimp only;omega,?_⟩
       ·obtain⟨q3,q4⟩:=m2 R q1 q2
        exact hfin R (Sort.permIn_trans _ _ _ _ _ he3 q3) q4
       ·(exact leA)
     ·have n1':a1-1<e3.size:=by omega
      (repeat' ((conv=>whnf);first|(with_reducible refine csLess _ _ ?_)|(refine gS (a1-1) zo zo ?_)|(with_reducible first|refine hU n2 ?_|refine ix_z n1' ?_|refine ix_z n2' ?_)|refine zG ?_|apply zA|intro h|exact zT));all_goals conv=>whnf
      ·refine csPart' he3s a1 b1 hsz p2 hp21 hp22 zo hB3 fun e4 mid r k1 k2 k3 k4 k5 k6 k7=>?_
       have hr1:∀{K:KT},(∀L,Sort.PermIn a1 mid e4 L->Sort.SortedIn Sort.ltInt a1 mid L->K (.tup []) [rowZ L])->AC 337 [.os 0 1 0 n,.v (.int .i64 a1),.v (.int .i64 mid),.v (.int .i64 l2)] [rowZ e4] K:=fun h=>ih n e4 a1 mid l2 zo k3 k1 zo hsz zo k4 h
       have hr2:∀{K:KT},(∀L,Sort.PermIn (mid+1) b1 e4 L->Sort.SortedIn Sort.ltInt (mid+1) b1 L->K (.tup []) [rowZ L])->AC 337 [.os 0 1 0 n,.v (.int .i64 ((mid:Int)+1)),.v (.int .i64 b1),.v (.int .i64 l2)] [rowZ e4] K:=fun h=>by
        rw[show(mid:Int)+1=((mid+1:Nat):Int) by omega]
        exact ih n e4 (mid+1) b1 l2 zo k3 zo zo hsz zo k5 h
       (repeat' ((conv=>whnf);first|(with_reducible first|refine hw8 ?_|refine hr1 fun L hL hs=>?_|refine hr2 fun L hL hs=>?_)|refine zG ?_|apply zA|intro h|exact zT));all_goals conv=>whnf
       ·obtain⟨m1,m2⟩:=k6 L hL hs
        refine⟨(mid+1,b1,l2,.sb (decide ((((b1-a1)/8:Nat):Int)<=(mid:Int)-a1)),.sb r,L),⟨by dsimp only;omega,by dsimp only;omega,by dsimp only;omega,by dsimp only;assumption,.inr ⟨_,rfl⟩,.inr ⟨_,rfl⟩,hL.1.trans k3,m1,fun R q1 q2=>?_⟩,by dsimp only;omega,?_⟩
        ·obtain⟨q3,q4⟩:=m2 R q1 q2
         exact hfin R (Sort.permIn_trans _ _ _ _ _ he3 q3) q4
        ·dsimp only
         rw[show((mid+1:Nat):Int)=(mid:Int)+1 by omega]
         (exact leA)
       ·obtain⟨m1,m2⟩:=k7 L hL hs
        refine⟨(a1,mid,l2,.sb (decide ((((b1-a1)/8:Nat):Int)<=(b1:Int)-mid)),.sb r,L),⟨by dsimp only;omega,by dsimp only;omega,by dsimp only;omega,by dsimp only;assumption,.inr ⟨_,rfl⟩,.inr ⟨_,rfl⟩,hL.1.trans k3,m1,fun R q1 q2=>?_⟩,by dsimp only;omega,?_⟩
        ·obtain⟨q3,q4⟩:=m2 R q1 q2
         exact hfin R (Sort.permIn_trans _ _ _ _ _ he3 q3) q4
        ·(exact leA)
      ·refine csPeq' he3s a1 b1 hsz p2 hp21 hp22 zo ha0 hB3 zp fun e4 mid k1 k2 k3 k4 k5=>?_
       (repeat' ((conv=>whnf);first|refine zG ?_|apply zA|intro h|exact zT));all_goals conv=>whnf
       refine⟨(mid,b1,l2,.sb c,.sb c',e4),⟨by dsimp only;omega,by dsimp only;omega,by dsimp only;omega,by dsimp only;assumption,.inr ⟨_,rfl⟩,.inr ⟨_,rfl⟩,k3,k4,fun R q1 q2=>?_⟩,by dsimp only;omega,?_⟩
       ·obtain⟨q3,q4⟩:=k5 R q1 q2
        exact hfin R (Sort.permIn_trans _ _ _ _ _ he3 q3) q4
       ·(exact leA)
  ·(repeat' ((conv=>whnf);first|(with_reducible refine csIns' hes a1 b1 hsz zo zo fun r h1 h2=>?_)|refine zG ?_|apply zA|intro h|exact zT));all_goals conv=>whnf
   exact hK r (hfin r h1 h2).1 (hfin r h1 h2).2
theorem sortedIn_pairwise{d:Array Int}(h:Sort.SortedIn Sort.ltInt 0 d.size d):d.toList.Pairwise (· <= ·):=by
 rw[cC]
 intro i j hi hj hij
 have:=h i j (aL _) hij (by simpa using hj)
 simp only[dS]at hi hj
 rw[getElem!_pos d i zo,getElem!_pos d j zo]at this
 simp only[Sort.ltInt,decide_eq_false_iff_not]at this
 simp only[Array.getElem_toList]
 omega
theorem permIn_perm{d e:Array Int}(h:Sort.PermIn 0 d.size d e):e.toList.Perm d.toList:=by
 obtain⟨h1,_,h2⟩:=h
 have e1:(e.extract 0 d.size)=e:=by rw[<-h1];simp
 have e2:(d.extract 0 d.size)=d:=by simp
 rw[e1,e2]at h2
 exact h2
theorem csSort(l:List Int)(hl:l.length<1000000000000){K:KT}(hK:∀l':List Int,l'.Perm l->l'.Pairwise (· <= ·)->K (.tup []) [.arr 1 (l'.map encZ)]):
  AC 324 [.os 0 1 0 l.length] [.arr 1 (l.map encZ)] K:=by
 refine ofsSort rfl rfl ?_
 have hp:∀{K:KT} (m:Nat),m<1000->(∀e:Array Int,Sort.PermIn 0 l.length l.toArray e->Sort.SortedIn Sort.ltInt 0 l.length e->K (.tup []) [rowZ e])->AC 337 [.os 0 1 0 l.length,.v (.int .i64 0),.v (.int .i64 l.length),.v (.int .i64 m)] [.arr 1 (l.map encZ)] K:=fun m hm h=>
  csPdq (l.length+1) l.length l.toArray 0 l.length m zo zx (aL _) (aJ _) hl hm (.inl rfl) h
 (repeat' ((conv=>whnf);first|(with_reducible refine csLen l.length hl fun m hm=>?_)|refine zG ?_|apply zA|intro h|exact zT));all_goals conv=>whnf
 have hm40:=len_le hl hm
 (repeat' ((conv=>whnf);first|(with_reducible refine hp m zo fun e h1 h2=>?_)|refine zG ?_|apply zA|intro h|exact zT));all_goals conv=>whnf
 have hs:e.size=l.length:=by simpa using h1.1
 refine hK e.toList ?_ ?_
 ·have:=permIn_perm (d:=l.toArray) (e:=e) (by simpa using h1)
  simpa using this
 ·exact sortedIn_pairwise (by rw[hs];exact h2)
def compS(acc:List Int)(x:Int):List Int:=if acc.getLast?=some x then acc else acc++[x]
def comp(l:List Int):List Int:=l.foldl compS []
theorem comp_succ{l:List Int}{r:Nat}{x:Int}(h:l[r]? =some x):comp (l.take (r+1))=compS (comp (l.take r)) x:=by
 simp[comp,bH,h]
theorem comp_last:∀(l:List Int) {r:Nat} {x:Int},l[r]? =some x->(comp (l.take (r+1))).getLast?=some x:=by
 intro l r x h
 rw[comp_succ h,compS]
 split
 ·assumption
 ·simp
theorem comp_next{l:List Int}{r:Nat}{x y:Int}(h:l[r]? =some x)(h1:l[r+1]? =some y):comp (l.take (r+2))=if x=y then comp (l.take (r+1))else comp (l.take (r+1))++[y]:=by
 rw[comp_succ h1,compS,comp_last l h]
 simp only[bP]
theorem csComp(l:List Int)(hl:l.length<1000000000000){K:KT}(hK:∀zs,K (.os 0 1 0 (comp l).length) [.arr 1 ((comp l).map encZ++zs)]):
  AC 325 [.os 0 1 0 l.length] [.arr 1 (l.map encZ)] K:=by
 refine ofsComp rfl rfl ?_
 rcases aD l.length 2 with h2|h2
 ·have e:comp l=l:=by
   rcases l with _|⟨x,_|⟨y,l⟩⟩
   ·rfl
   ·rfl
   ·simp only[aK]at h2;omega
  have:=hK []
  rw[e,bJ]at this
  (repeat' ((conv=>whnf);first|refine zG ?_|apply zA|intro h|exact zT));all_goals conv=>whnf
  exact this
 ·(repeat' ((conv=>whnf);first|refine zG ?_|apply zA|intro h|exact zT));all_goals conv=>whnf
  refine gL Nat (fun k=>⟨1,[(0,.arr 1 (l.map encZ))],[(0,.os 0 1 0 l.length),(3,.v (.int .i64 k))]⟩) (fun k=>1<=k/\k<=l.length/\comp (l.take k)=l.take k) (fun k=>l.length-k) 1 ⟨aJ _,by omega,?_⟩ ?_ ?_
  ·rcases l with _|⟨x,l⟩
   ·exact absurd h2 zx
   ·rfl
  ·(exact leA)
  intro k ⟨hk1,hk2,hk3⟩
  rcases aD k l.length with hkl|hkl
  ·obtain⟨m,rfl⟩:∃m,k=m+1:=⟨k-1,by omega⟩
   obtain⟨x,hx⟩:∃x,l[m]? =some x:=⟨_,aB zo⟩
   obtain⟨y,hy⟩:∃y,l[m+1]? =some y:=⟨_,aB hkl⟩
   have hx0:l[0+m]? =some x:=by rw[bM];exact hx
   have hy0:l[0+(m+1)]? =some y:=by rw[bM];exact hy
   have hn:=comp_next hx hy
   (repeat' ((conv=>whnf);first|(with_reducible refine hU hkl ?_)|(refine gS m zo zo ?_)|(with_reducible first|refine gZ hx0 ?_|refine gZ hy0 ?_)|(refine gV (m+1) l.length rfl rfl zo (aJ _) ?_)|refine zG ?_|apply zA|intro h|exact zT));all_goals conv=>whnf
   ·have hxy:x=y:=h.symm
    rw[aH hxy,hk3]at hn
    refine gL Nat (fun q=>⟨1,[(0,.arr 1 ((comp (l.take (m+2+q))++l.drop (comp (l.take (m+2+q))).length).map encZ))],[(0,.os 0 1 0 l.length),(3,.v (.int .i64 (comp (l.take (m+2+q))).length)),(4,.os 0 1 (0+(m+1)) (l.length-(m+1))),(5,.v (.int .i64 ((q+1:Nat):Int)))]⟩) (fun q=>m+2+q<=l.length/\(comp (l.take (m+2+q))).length<m+2+q) (fun q=>l.length-q) 0 ⟨by omega,by rw[dY,hn,bG];omega⟩ ?_ ?_
    ·have e1:(l.take (m+1)).length=m+1:=by rw[bG];omega
     rw[dY,hn,e1,cS]
     (exact leA)
    intro q ⟨hq1,hq2⟩
    obtain⟨C,hC⟩:∃C,C=comp (l.take (m+2+q)):=⟨_,rfl⟩
    rw[<-hC]at hq2⊢
    rcases aD (m+2+q) l.length with hql|hql
    ·obtain⟨u,hu⟩:∃u,l[m+1+q]? =some u:=⟨_,aB zo⟩
     obtain⟨v,hv⟩:∃v,l[m+1+q+1]? =some v:=⟨_,aB zo⟩
     have hnx:=comp_next hu hv
     rw[show m+1+q+2=m+2+(q+1) by omega,show m+1+q+1=m+2+q by omega,<-hC]at hnx
     have hget:∀i,C.length<=i->(C++l.drop C.length)[i]? =l[i]? :=fun i hi=>by
      rw[bB hi,cF]
      congr 1;omega
     have hu0:(C++l.drop C.length)[0+(m+1)+q]? =some u:=by rw[bM,hget _ zo];exact hu
     have hv0:(C++l.drop C.length)[0+(m+1)+(q+1)]? =some v:=by rw[bM,hget _ zo];exact hv
     obtain⟨z,hz⟩:∃z,l[C.length]? =some z:=⟨_,aB zo⟩
     have hz0:(C++l.drop C.length)[0+C.length]? =some z:=by rw[bM,hget _ (aJ _)];exact hz
     have hCn:C.length<l.length:=by omega
     have hdr:l.drop C.length=z::l.drop (C.length+1):=by
      rw[aB hCn]at hz
      rw[<-bE hz,<-aZ hCn]
     have hset:((C++l.drop C.length).map encZ).set (0+C.length) (encZ v)=((C++[v])++l.drop (C++[v]).length).map encZ:=by
      rw[bM,<-fG,dV _ _ (aJ _),dN,hdr]
      simp
     (repeat' ((conv=>whnf);first|(refine gS q zo zo ?_)|(refine gS (q+1) zo zo ?_)|(with_reducible first|refine hU hCn ?_|refine gZ hu0 ?_|refine gZ hv0 ?_|refine gZ hz0 ?_)|refine zG ?_|apply zA|intro h|exact zT));all_goals conv=>whnf
     all_goals first
      |(rw[aE (fun e=>h e.symm)]at hnx
        refine⟨q+1,⟨by omega,by rw[hnx,aC];simp;omega⟩,by omega,?_⟩
        rw[hnx,hset,show((C++[v]).length:Int)=(C.length:Int)+1 by simp,show((q+1+1:Nat):Int)=((q+1:Nat):Int)+1 by omega]
        (exact leA)
        done)
      |(rw[aH (by first|exact h.symm|exact(Decidable.not_not.1 h).symm)]at hnx
        refine⟨q+1,⟨by omega,by rw[hnx];omega⟩,by omega,?_⟩
        rw[hnx,show((q+1+1:Nat):Int)=((q+1:Nat):Int)+1 by omega]
        (exact leA))
    ·have hCl:C=comp l:=by rw[hC,bA hql]
     have hCn:C.length<=l.length:=by omega
     (repeat' ((conv=>whnf);first|(refine gV C.length l.length rfl rfl hCn (aJ _) ?_)|(refine gV 0 C.length rfl rfl (aL _) hCn ?_)|refine zG ?_|apply zA|intro h|exact zT));all_goals conv=>whnf
     have e1:(List.map encZ (C++l.drop C.length)).take (0+C.length)=C.map encZ:=by
      rw[bM,aQ,gF zx]
     rw[e1,dY,dZ,hCl]
     exact hK _
   ·refine⟨m+2,⟨by omega,by omega,?_⟩,by omega,?_⟩
    ·rw[hn,aE (fun e=>h e.symm),hk3,bH (i:=m+1),hy]
     rfl
    ·rw[show((m+2:Nat):Int)=((m+1:Nat):Int)+1 by omega]
     (exact leA)
  ·have e:comp l=l:=by rw[bA hkl]at hk3;exact hk3
   have:=hK []
   rw[e,bJ]at this
   (repeat' ((conv=>whnf);first|refine zG ?_|apply zA|intro h|exact zT));all_goals conv=>whnf
   exact this
theorem comp_take_mem(l:List Int):∀r,r<=l.length->∀z,z∈comp (l.take r)↔z∈l.take r:=by
 intro r
 induction r with
 |zero=>intro _ z;simp[comp]
 |succ r ih=>
  intro hr z
  obtain⟨x,hx⟩:∃x,l[r]? =some x:=⟨_,aB zo⟩
  rw[comp_succ hx,compS,bH,hx]
  have h:=ih zo z
  split
  ·rename_i hl
   have:x∈comp (l.take r):=List.mem_of_getLast? hl
   simp only[eB,aU,aR,h]
   constructor
   ·intro h;exact .inl h
   ·rintro(h|rfl)
    ·exact h
    ·exact(ih zo z).1 this
  ·simp[h]
theorem comp_mem{l:List Int}{z:Int}:z∈comp l↔z∈l:=by
 have:=comp_take_mem l l.length (aJ _) z
 rwa[cY]at this
theorem comp_take_lt{l:List Int}(h:l.Pairwise (· <= ·)):∀r,r<=l.length->(comp (l.take r)).Pairwise (· < ·):=by
 intro r
 induction r with
 |zero=>intro _;simp[comp]
 |succ r ih=>
  intro hr
  obtain⟨x,hx⟩:∃x,l[r]? =some x:=⟨_,aB zo⟩
  rw[comp_succ hx,compS]
  have h0:=ih zo
  split
  ·exact h0
  ·rename_i hl
   rw[dE]
   refine⟨h0,by simp,fun a ha b hb=>?_⟩
   rw[aR]at hb
   subst hb
   have ha':=(comp_take_mem l r zo a).1 ha
   have hle:∀c,c∈l.take r->c<=b:=fun c hc=>by
    have h1:(l.take (r+1)).Pairwise (· <= ·):=h.sublist (List.take_sublist _ _)
    rw[bH,hx]at h1
    exact(dE.1 h1).2.2 c hc b zx
   have hne:a≠b:=by
    rintro rfl
    obtain⟨i,g,hg⟩:∃i g,comp (l.take r)=i++[g]:=by
     rcases cT (comp (l.take r))with h|⟨i,g,h⟩
     ·rw[h]at ha;simp at ha
     ·exact⟨i,g,by rw[h,cU]⟩
    rw[hg]at hl ha h0
    simp only[cP,cJ,dP,bP]at hl
    have hgl:g<=a:=hle g ((comp_take_mem l r zo g).1 (by rw[hg];simp))
    rcases aU.1 ha with ha|ha
    ·have:=(dE.1 h0).2.2 a ha g zx
     omega
    ·rw[aR]at ha
     exact hl ha.symm
   have:=hle a ha'
   omega
theorem comp_lt{l:List Int}(h:l.Pairwise (· <= ·)):(comp l).Pairwise (· < ·):=by
 have:=comp_take_lt h l.length (aJ _)
 rwa[cY]at this
theorem endsB_succ{f:Nat}{l:List Bx}{k:Nat}{x:Bx}(h:l[k]? =some x):endsB f (l.take (k+1))=endsB f (l.take k)++[(x.get f).lo,(x.get f).hi+1]:=by
 simp[endsB,bH,h]
theorem endsB_len(f:Nat)(l:List Bx):(endsB f l).length=2*l.length:=by
 induction l with
 |nil=>rfl
 |cons x l ih=>rw[endsB,cX,aC];rw[endsB]at ih;rw[ih,aK];simp;omega
theorem cxCuts(a b:List Bx)(f:Nat)(hf:f<=4)(ha:a.length<1000000000)(hb:b.length<1000000000){K:KT}
  (hK:∀st:List Int,st.Pairwise (· < ·)->(∀z,z∈st↔z=0\/z=topF f+1\/z∈endsB f a\/z∈endsB f b)->K (.lst (st.map encZ)) []):
  AC 288 [.v (.int .i64 f),.lst [encXs a,encXs b]] [] K:=by
 refine ofxCuts rfl rfl ?_
 have hTop:∀{K:KT},K (.v (.int .u32 (topF f))) []->AC 143 [.v (.int .i64 f)] [] K:=fun h=>cxTop _ (by rw[topI_nat hf];exact h)
 have ht:=topF_pos f
 (repeat' ((conv=>whnf);first|(with_reducible refine hTop ?_)|refine zG ?_|apply zA|intro h|exact zT));all_goals conv=>whnf
 refine Lp.times 3 ?_
 (repeat' ((conv=>whnf);first|(refine in_c rfl ?_)|(refine gT rfl ?_)|refine zG ?_|apply zA|intro h|exact zT));all_goals conv=>whnf
 refine gL Nat (fun k=>⟨1,[(0,.arr 1 (([0,topF f+1]++endsB f (a.take k)).map encZ))],[(0,.v (.int .i64 f)),(5,.os 0 1 0 ([0,topF f+1]++endsB f (a.take k)).length),(15,.lst [encXs a,encXs b]),(16,.v (.int .i64 (([encXs a,encXs b].length:Nat):Int))),(17,.v (.int .i64 (0))),(21,encXs a),(22,.v (.int .i64 ((a.map encX).length:Nat))),(23,.v (.int .i64 k))]⟩) (fun k=>k<=a.length) (fun k=>a.length-k) 0 (aL _) ?_ ?_
 ·rw[cR,show endsB f []=[]from rfl,bJ]
  (exact leA)
 intro k hk
 rcases aD k a.length with hkl|hkl
 ·obtain⟨x,hx⟩:=gex hkl
  have hs:=endsB_succ (f:=f) hx
  have hlen:([0,topF f+1]++endsB f (a.take k)).length<=4000000010:=by
   have h1:=endsB_len f (a.take k)
   have h2:=endsB_len f a
   rw[bG]at h1
   simp only[aC,aK,aP]
   omega
  have hr:((x.get f).hi<=4294967295/\0<=(x.get f).hi)/\(x.get f).lo<=4294967295/\0<=(x.get f).lo:=⟨⟨(x.get f).h1,(x.get f).h0⟩,(x.get f).l1,(x.get f).l0⟩
  obtain⟨⟨hr1,hr2⟩,hr3,hr4⟩:=hr
  have happ:(([0,topF f+1]++endsB f (a.take (k+1))).map encZ)=(([0,topF f+1]++endsB f (a.take k)).map encZ)++[encZ (x.get f).lo,encZ ((x.get f).hi+1)]:=by
   rw[hs,<-dL,aQ];rfl
  have hll:([0,topF f+1]++endsB f (a.take (k+1))).length=([0,topF f+1]++endsB f (a.take k)).length+2:=by
   rw[hs,<-dL,aC];rfl
  generalize hA:([0,topF f+1]++endsB f (a.take k))=A at*
  generalize hB:([0,topF f+1]++endsB f (a.take (k+1)))=B at*
  rcases f with _|_|_|_|_|f
  case succ.succ.succ.succ.succ=>omega
  all_goals
   simp only[Bx.get]at happ hr1 hr2 hr3 hr4
   (repeat' ((conv=>whnf);first|(with_reducible first|refine hJ hkl ?_|refine gZ hx ?_)|(refine in_c zd ?_)|refine zG ?_|apply zA|intro h|exact zT));all_goals conv=>whnf
   refine⟨k+1,by omega,by omega,?_⟩
   rw[hB,happ,hll]
   (exact leA)
 ·rw[bA hkl]
  (repeat' ((conv=>whnf);first|(refine in_c rfl ?_)|(refine gT rfl ?_)|refine zG ?_|apply zA|intro h|exact zT));all_goals conv=>whnf
  refine gL Nat (fun k=>⟨1,[(0,.arr 1 ((([0,topF f+1]++endsB f a)++endsB f (b.take k)).map encZ))],[(0,.v (.int .i64 f)),(5,.os 0 1 0 (([0,topF f+1]++endsB f a)++endsB f (b.take k)).length),(15,.lst [encXs a,encXs b]),(16,.v (.int .i64 (([encXs a,encXs b].length:Nat):Int))),(17,.v (.int .i64 (0+1))),(21,encXs b),(22,.v (.int .i64 ((b.map encX).length:Nat))),(23,.v (.int .i64 k))]⟩) (fun k=>k<=b.length) (fun k=>b.length-k) 0 (aL _) ?_ ?_
  ·rw[cR,show endsB f []=[]from rfl,bJ]
   (exact leA)
  intro k hk
  rcases aD k b.length with hkl|hkl
  ·obtain⟨x,hx⟩:=gex hkl
   have hs:=endsB_succ (f:=f) hx
   have hlen:(([0,topF f+1]++endsB f a)++endsB f (b.take k)).length<=4000000010:=by
    have h1:=endsB_len f (b.take k)
    have h2:=endsB_len f a
    rw[bG]at h1
    simp only[aC,aK,aP]
    omega
   have hr:((x.get f).hi<=4294967295/\0<=(x.get f).hi)/\(x.get f).lo<=4294967295/\0<=(x.get f).lo:=⟨⟨(x.get f).h1,(x.get f).h0⟩,(x.get f).l1,(x.get f).l0⟩
   obtain⟨⟨hr1,hr2⟩,hr3,hr4⟩:=hr
   have happ:((([0,topF f+1]++endsB f a)++endsB f (b.take (k+1))).map encZ)=((([0,topF f+1]++endsB f a)++endsB f (b.take k)).map encZ)++[encZ (x.get f).lo,encZ ((x.get f).hi+1)]:=by
    rw[hs,<-dL,aQ];rfl
   have hll:(([0,topF f+1]++endsB f a)++endsB f (b.take (k+1))).length=(([0,topF f+1]++endsB f a)++endsB f (b.take k)).length+2:=by
    rw[hs,<-dL,aC];rfl
   generalize hA:(([0,topF f+1]++endsB f a)++endsB f (b.take k))=A at*
   generalize hB:(([0,topF f+1]++endsB f a)++endsB f (b.take (k+1)))=B at*
   rcases f with _|_|_|_|_|f
   case succ.succ.succ.succ.succ=>omega
   all_goals
    simp only[Bx.get]at happ hr1 hr2 hr3 hr4
    (repeat' ((conv=>whnf);first|(with_reducible first|refine hJ hkl ?_|refine gZ hx ?_)|(refine in_c zd ?_)|refine zG ?_|apply zA|intro h|exact zT));all_goals conv=>whnf
    refine⟨k+1,by omega,by omega,?_⟩
    rw[hB,happ,hll]
    (exact leA)
  ·rw[bA hkl]
   have hl:([0,topF f+1]++endsB f a++endsB f b).length<1000000000000:=by
    have h1:=endsB_len f a
    have h2:=endsB_len f b
    simp only[aC,aK,aP]
    omega
   (repeat' ((conv=>whnf);first|(with_reducible refine csSort _ hl fun l' hp hs=>?_)|refine zG ?_|apply zA|intro h|exact zT));all_goals conv=>whnf
   have hll:([0,topF f+1]++endsB f a++endsB f b).length=l'.length:=hp.length_eq.symm
   rw[hll]at hl⊢
   (repeat' ((conv=>whnf);first|(with_reducible refine csComp l' hl fun zs=>?_)|refine zG ?_|apply zA|intro h|exact zT));all_goals conv=>whnf
   refine Sl.intro (ys:=(comp l').map encZ) zx (by rw[cA,gF zx]) ?_
   refine hK (comp l') (comp_lt hs) fun z=>?_
   rw[comp_mem,hp.mem_iff]
   simp only[aU,aS,cK,or_false,or_assoc]
end Go.Proofs.YtbdikofefjljoaaGreatDoor
