/- Lemmas. -/
import Derived.Test.YtgicddadddhonaaGreatDoorM19
set_option linter.unusedVariables false
set_option linter.unusedSimpArgs false
set_option maxRecDepth 100000
set_option maxHeartbeats 4000000
namespace Go.Proofs.YtgicddadddhonaaGreatDoor
open Go Go.Vm
theorem sT(e:Int):0<=IntKind.u64.wrap e/\IntKind.u64.wrap e<=18446744073709551615:=by
 simp only[IntKind.wrap,IntKind.signed,IntKind.bits];simp;omega
theorem zZ{e:Int}{K:Int->Prop}(hK:∀r:Int,0<=r->r<=18446744073709551615->K r):Wr .u64 e K:=Wr.intro rfl (hK _ (sT e).1 (sT e).2)
theorem Nd(a b:Int):0<=oM .xor .u64 a b/\oM .xor .u64 a b<=18446744073709551615:=sT _
theorem aLK(r:Int)(h0:0<=r)(h1:r<=18446744073709551615){K:KT}(hK:∀r':Int,0<=r'->r'<=18446744073709551615->K (.v (.int .u64 r')) [.box [.v (.int .u64 r')]]):
  AC 329 [.op 0 0] [.box [.v (.int .u64 r)]] K:=by
 refine aIN rfl rfl ?_;(repeat' ((conv=>whnf);first|(refine zZ fun z _ _=>?_)|refine zG ?_|apply zA|intro h|exact zT));all_goals conv=>whnf
 exact hK _ (Nd _ _).1 (Nd _ _).2
theorem aMv(x s:Nat)(hs:s=8\/s=16\/s=32):(x:Int).fdiv (2^min (Int.toNat (s:Int)) IntKind.u64.bits)=((x/2^s:Nat):Int):=by
 have e:(2^min (Int.toNat (s:Int)) IntKind.u64.bits:Int)=((2^s:Nat):Int):=by
  rcases hs with rfl|rfl|rfl<;>rfl
 rw[e,Int.fdiv_eq_ediv_of_nonneg _ (Int.natCast_nonneg _)];exact(Int.natCast_ediv _ _).symm
theorem f32(x:Nat):(x:Int).fdiv (2^min (Int.toNat 32) IntKind.u64.bits)=((x/2^32:Nat):Int):=aMv x 32 zx
theorem f16(x:Nat):(x:Int).fdiv (2^min (Int.toNat 16) IntKind.u64.bits)=((x/2^16:Nat):Int):=aMv x 16 zx
theorem f8(x:Nat):(x:Int).fdiv (2^min (Int.toNat 8) IntKind.u64.bits)=((x/2^8:Nat):Int):=aMv x 8 zx
theorem aFu(x:Nat)(hx:x<1000000000000){K:KT}(hK:∀n:Nat,vS x n->K (.v (.int .i64 n)) []):AC 324 [.v (.int .u64 x)] [] K:=by
 refine aDS rfl rfl ?_;(repeat' ((conv=>whnf);first|refine zG ?_|apply zA|intro h|exact zT));all_goals conv=>whnf
 ·rename_i h1 h3;rw[f32]at h3;rw[f32,f16]at h;omega
 ·rename_i h1 h3;rw[f32]at h3;omega
 ·rename_i h1 h3;rw[f32]at h3;have h2:=h;rw[f32]at h2;refine Nc (x/2^32/2^8) (by rw[f32,f8]) zo ?_;(repeat' ((conv=>whnf);first|(with_reducible refine Gc zk zo fun b hb hb2=>?_)|refine zG ?_|apply zA|intro h|exact zT));all_goals conv=>whnf
  have e:(32+8+(b.toNat:Int))=((b.toNat+8+32:Nat):Int):=by omega
  unfold D9;rw[e];exact hK _ (nX (nX hb zo) zo)
 ·rename_i h1 h3;rw[f32]at h3;have h2:=h;rw[f32]at h2;refine Nc (x/2^32) (by rw[f32]) zo ?_;(repeat' ((conv=>whnf);first|(with_reducible refine Gc zk zo fun b hb hb2=>?_)|refine zG ?_|apply zA|intro h|exact zT));all_goals conv=>whnf
  have e:(32+(b.toNat:Int))=((b.toNat+32:Nat):Int):=by omega
  unfold D9;rw[e];exact hK _ (nX hb zo)
 ·have h2:=h;rw[f16]at h2;refine Nc (x/2^16/2^8) (by rw[f16,f8]) zo ?_;(repeat' ((conv=>whnf);first|(with_reducible refine Gc zk zo fun b hb hb2=>?_)|refine zG ?_|apply zA|intro h|exact zT));all_goals conv=>whnf
  have e:(0+16+8+(b.toNat:Int))=((b.toNat+8+16:Nat):Int):=by omega
  unfold D9;rw[e];exact hK _ (nX (nX hb zo) zo)
 ·have h2:=h;rw[f16]at h2;refine Nc (x/2^16) (by rw[f16]) zo ?_;(repeat' ((conv=>whnf);first|(with_reducible refine Gc zk zo fun b hb hb2=>?_)|refine zG ?_|apply zA|intro h|exact zT));all_goals conv=>whnf
  have e:(0+16+(b.toNat:Int))=((b.toNat+16:Nat):Int):=by omega
  unfold D9;rw[e];exact hK _ (nX hb zo)
 ·have h2:=h;refine Nc (x/2^8) (by rw[f8]) zo ?_;(repeat' ((conv=>whnf);first|(with_reducible refine Gc zk zo fun b hb hb2=>?_)|refine zG ?_|apply zA|intro h|exact zT));all_goals conv=>whnf
  have e:(0+8+(b.toNat:Int))=((b.toNat+8:Nat):Int):=by omega
  unfold D9;rw[e];exact hK _ (nX hb zo)
 ·have h2:=h;refine Nc x rfl zo ?_;(repeat' ((conv=>whnf);first|(with_reducible refine Gc zk zo fun b hb hb2=>?_)|refine zG ?_|apply zA|intro h|exact zT));all_goals conv=>whnf
  have e:(0+(b.toNat:Int))=((b.toNat:Nat):Int):=by omega
  unfold D9;rw[e];exact hK _ hb
theorem aKu(x:Nat)(hx:x<1000000000000){K:KT}(hK:∀n:Nat,vS x n->K (.v (.int .i64 n)) []):AC 308 [.v (.int .u64 x)] [] K:=by
 refine aQo rfl rfl ?_;(repeat' ((conv=>whnf);first|(with_reducible refine aFu x hx fun n hn=>?_)|refine zG ?_|apply zA|intro h|exact zT));all_goals conv=>whnf
 exact hK n hn
theorem aCM{x n:Nat}(hx:x<1000000000000)(h:vS x n):n<=40:=by
 rcases h.2 with h1|h1
 ·omega
 ·rcases aD 40 n with h2|h2
  ·have:=fZ (n:=2) zo (show 40<=n-1 by omega);omega
  ·exact h2
theorem aLN(x:Nat)(hx:x<1000000000000){K:KT}(hK:∀n:Nat,vS x n->K (.v (.int .u64 ((2^n:Nat):Int))) []):AC 328 [.v (.int .i64 x)] [] K:=by
 refine aIR rfl rfl ?_;(repeat' ((conv=>whnf);first|(with_reducible refine aKu x hx fun n hn=>?_)|refine zG ?_|apply zA|intro h|exact zT));all_goals conv=>whnf
 have h40:=aCM hx hn;have e:(1:Int)*2^min ((n:Int)).toNat IntKind.u64.bits=((2^n:Nat):Int):=by
  rw[Int.one_mul,dY,show IntKind.u64.bits=64 from rfl,gM zo,Int.natCast_pow];rfl
 have hp:=fZ (n:=2) zo h40;refine xG e (Int.natCast_nonneg _) zo ?_;(repeat' ((conv=>whnf);first|refine zG ?_|apply zA|intro h|exact zT));all_goals conv=>whnf
 exact hK n hn
theorem X8{r m:Nat}(hm:m<18446744073709551616):∃o:Nat,oM .and .u64 (r:Int) (m:Int)=(o:Int)/\o<=m:=by
 have h0:(BitVec.ofInt 64 (m:Int)).toNat=m:=by
  rw[BitVec.toNat_ofInt];omega
 have h1:(BitVec.ofInt 64 (r:Int)&&&BitVec.ofInt 64 (m:Int)).toNat<=m:=by
  rw[BitVec.toNat_and,h0];exact Nat.and_le_right
 refine⟨(BitVec.ofInt 64 (r:Int)&&&BitVec.ofInt 64 (m:Int)).toNat,?_,h1⟩;show IntKind.u64.wrap ((BitVec.ofInt 64 (r:Int)&&&BitVec.ofInt 64 (m:Int)).toNat:Int)=_;generalize (BitVec.ofInt 64 (r:Int)&&&BitVec.ofInt 64 (m:Int)).toNat=z at h1;simp only[IntKind.wrap,IntKind.signed,IntKind.bits];simp;omega
theorem aSg(d:Array Int)(a b:Nat)(hab:a<b)(hb:b<=d.size)(hsz:d.size<1000000000000){K:KT}(hK:∀e,Sort.PermIn a b d e->K (.tup []) [jE e]):
  AC 334 [.os 0 1 0 d.size,.v (.int .i64 a),.v (.int .i64 b)] [jE d] K:=by
 refine aQm rfl rfl ?_;have q0:((b:Int)-a).tdiv 4=(((b-a)/4:Nat):Int):=by rw[dD zo];omega
 have hw:∀{K:Int->Prop},K (((b-a)/4:Nat):Int)->Wr .i64 (((b:Int)-a).tdiv 4) K:=fun h=>jO q0 zo zo h;have hba:(b:Int)-a=((b-a:Nat):Int):=by omega
 have hpow:∀{K:KT},(∀n:Nat,vS (b-a) n->K (.v (.int .u64 ((2^n:Nat):Int))) [])->AC 328 [.v (.int .i64 ((b:Int)-a))] [] K:=fun h=>by rw[hba];exact aLN (b-a) zo h
 (repeat' ((conv=>whnf);first|(with_reducible first|refine hw ?_|refine hpow fun n hn=>?_)|refine zG ?_|apply zA|intro h|exact zT));all_goals conv=>whnf
 ·have h8:=h;have hp2:2^n<=2*(b-a):=by
   rcases hn.2 with h1|h1
   ·subst h1;omega
   ·rcases n with _|n
    ·omega
    ·rw[Nat.add_sub_cancel]at h1;rw[Nat.pow_succ];omega
  have hp1:=hn.1;have hp0:=fT n;have hq1:4*((b-a)/4)<=b-a:=by omega
  have hq2:b-a<4*((b-a)/4)+4:=by omega
  clear hpow q0;generalize (b-a)/4=q at*;generalize 2^n=M at*;refine gV (Nat×Int×Array Int) (fun g=>⟨2,[(0,jE g.2.2),(1,.box [.v (.int .u64 g.2.1)])],[(0,.os 0 1 0 d.size),(1,.v (.int .i64 a)),(6,.v (.int .i64 ((b:Int)-a))),(7,.op 1 0),(8,.v (.int .u64 ((M:Nat):Int))),(9,.v (.int .i64 g.1))]⟩)
   (fun g=>a+2*q<=g.1+1/\g.1<=a+2*q+2/\0<=g.2.1/\g.2.1<=18446744073709551615/\Sort.PermIn a b d g.2.2) (fun g=>a+2*q+2-g.1) (a+2*q-1,(b:Int)-a,d) ⟨by dsimp only;omega,by dsimp only;omega,by dsimp only;omega,by dsimp only;omega,Sort.permIn_refl d a b⟩ ?_ ?_
  ·dsimp only;rw[show((a+2*q-1:Nat):Int)=(a:Int)+(q:Int)*2-1 by omega];exact leA
  rintro⟨i,r,e⟩ ⟨hi1,hi2,hr1,hr2,hpe⟩
  simp only at hi1 hi2 hr1 hr2 hpe⊢;have hes:e.size=d.size:=hpe.1;rcases aD (a+2*q+1) i with h1|h1
  ·(repeat' ((conv=>whnf);first|(with_reducible refine hw ?_)|refine zG ?_|apply zA|intro h|exact zT));all_goals conv=>whnf
   exact hK e hpe
  ·(repeat' ((conv=>whnf);first|(with_reducible first|refine hw ?_|refine aLK r hr1 hr2 fun r' h0 h1=>?_)|refine zG ?_|apply zA|intro h|exact zT));all_goals conv=>whnf
   obtain⟨r',rfl⟩:=eJ h0;have hM1:(M:Int)-1=((M-1:Nat):Int):=by omega
   obtain⟨o,ho,hom⟩:=X8 (r:=r') (m:=M-1) zo;rw[hM1,ho];have n1:i<d.size:=by omega
   have n1':i<e.size:=by omega
   have step:∀o':Nat,o'<b-a->∃g':Nat×Int×Array Int,(a+2*q<=g'.1+1/\g'.1<=a+2*q+2/\0<=g'.2.1/\g'.2.1<=18446744073709551615/\Sort.PermIn a b d g'.2.2)/\a+2*q+2-g'.1<a+2*q+2-i/\g'=(i+1,(r':Int),Sort.swp e i (a+o')):=fun o' ho'=>
    ⟨(i+1,(r':Int),Sort.swp e i (a+o')),⟨by dsimp only;omega,by dsimp only;omega,h0,h1,Sort.permIn_trans _ _ _ _ _ hpe (Sort.swp_permIn _ _ _ _ _ zo zo zo zo zo)⟩,by dsimp only;omega,rfl⟩
   rcases aD o (b-a)with hoL|hoL
   ·have n2':a+o<e.size:=by omega
    obtain⟨g',k1,k2,rfl⟩:=step o hoL;(repeat' ((conv=>whnf);first|(with_reducible refine iJ n1 ?_)|(refine iB (a+o) zo zo ?_)|(with_reducible first|refine lE n1' ?_|refine lE n2' ?_)|(refine vE n2' fun z=>?_)|(rw[vR])|refine zG ?_|apply zA|intro h|exact zT));all_goals conv=>whnf
    refine⟨_,k1,k2,?_⟩;dsimp only;rw[aN,aM];exact leA
   ·have n2':a+(o-(b-a))<e.size:=by omega
    obtain⟨g',k1,k2,rfl⟩:=step (o-(b-a)) zo;(repeat' ((conv=>whnf);first|(with_reducible refine iJ n1 ?_)|(refine iB (a+(o-(b-a))) zo zo ?_)|(with_reducible first|refine lE n1' ?_|refine lE n2' ?_)|(refine vE n2' fun z=>?_)|(rw[vR])|refine zG ?_|apply zA|intro h|exact zT));all_goals conv=>whnf
    refine⟨_,k1,k2,?_⟩;dsimp only;rw[aN i,aM];exact leA
 ·exact hK d (Sort.permIn_refl d a b)
section
variable {n:Nat} {d:Array Int} (hn:d.size=n) (a b:Nat) (hsz:n<1000000000000) {K:KT}
include hn hsz
theorem aLJ(hab:a<=b)(hb:b<=n)(hK:∀e,Sort.PermIn a b d e->Sort.SortedIn Sort.ltInt a b e->K (.tup []) [jE e]):
  AC 332 [.os 0 1 0 n,.v (.int .i64 a),.v (.int .i64 b)] [jE d] K:=by
 subst hn;have h:=Sort.insertionSort_holds Sort.swo_ltInt d a b hab hb;exact aSh d a b hab hb hsz (hK _ h.1 h.2)
theorem aFt(hab:a<b)(hb:b<=n)(hK:∀e,Sort.PermIn a b d e->Sort.SortedIn Sort.ltInt a b e->K (.tup []) [jE e]):
  AC 333 [.os 0 1 0 n,.v (.int .i64 a),.v (.int .i64 b)] [jE d] K:=by
 subst hn;have h:=Sort.heapSort_holds Sort.swo_ltInt d a b zo hb;exact aLI d a b hab hb hsz (hK _ h.1 h.2)
theorem N3(hab:a<b)(hb:b<=n)(hK:∀e,Sort.PermIn a b d e->K (.tup []) [jE e]):
  AC 334 [.os 0 1 0 n,.v (.int .i64 a),.v (.int .i64 b)] [jE d] K:=by
 subst hn;exact aSg d a b hab hb hsz hK
theorem N6(hab:a<b)(hb:b<=n)(hK:∀e,Sort.PermIn a b d e->K (.tup []) [jE e]):
  AC 336 [.os 0 1 0 n,.v (.int .i64 a),.v (.int .i64 b)] [jE d] K:=by
 subst hn;exact aSm d a b hab hb hsz (hK _ (Sort.reverseRange_holds d a b zo hb))
theorem N5(hab:a<b)(hb:b<=n)(hK:∀(p:Nat) (h:Int),a<=p->p<b->K (.tup [.v (.int .i64 p),.v (.int .i64 h)]) [jE d]):
  AC 335 [.os 0 1 0 n,.v (.int .i64 a),.v (.int .i64 b)] [jE d] K:=by
 subst hn;exact aSl d a b hab hb hsz hK
theorem Ht(hab:a<b)(hb:b<=n)(hB:Sort.Below Sort.ltInt a b d)(hK:∀e (r:Bool),Sort.PermIn a b d e->(r=true->Sort.SortedIn Sort.ltInt a b e)->K (.sb r) [jE e]):
  AC 337 [.os 0 1 0 n,.v (.int .i64 a),.v (.int .i64 b)] [jE d] K:=by
 subst hn;have h:=Sort.partialInsertionSort_holds Sort.swo_ltInt d a b hab hb hB;exact aLM d a b hab hb hsz (hK _ _ h.1 h.2)
theorem N4(p:Nat)(hap:a<=p)(hpb:p<b)(hb:b<=n)(ha0:0<a)(hB:Sort.Below Sort.ltInt a b d)(hnl:Sort.ltInt d[a-1]! d[p]! =false)
  (hK:∀e (mid:Nat),a<mid->mid<=b->e.size=n->Sort.Below Sort.ltInt mid b e->(∀R,Sort.PermIn mid b e R->Sort.SortedIn Sort.ltInt mid b R->Sort.PermIn a b d R/\Sort.SortedIn Sort.ltInt a b R)->K (.v (.int .i64 mid)) [jE e]):
  AC 339 [.os 0 1 0 n,.v (.int .i64 a),.v (.int .i64 b),.v (.int .i64 p)] [jE d] K:=by
 subst hn;obtain⟨h1,h2,h3,h4,h5⟩:=Sort.round_eq Sort.swo_ltInt (Sort.partitionEqual_holds Sort.ltInt) ha0 hap hpb hb hB hnl rfl;exact aSk d a b p hap hpb hb hsz (hK _ _ h1 h2 h3 h4 h5)
theorem sW(p:Nat)(hap:a<=p)(hpb:p<b)(hb:b<=n)(hB:Sort.Below Sort.ltInt a b d)
  (hK:∀e (mid:Nat) (r:Bool),a<=mid->mid<b->e.size=n->Sort.Below Sort.ltInt a mid e->Sort.Below Sort.ltInt (mid+1) b e->
   (∀L,Sort.PermIn a mid e L->Sort.SortedIn Sort.ltInt a mid L->Sort.Below Sort.ltInt (mid+1) b L/\∀R,Sort.PermIn (mid+1) b L R->Sort.SortedIn Sort.ltInt (mid+1) b R->Sort.PermIn a b d R/\Sort.SortedIn Sort.ltInt a b R)->
   (∀L,Sort.PermIn (mid+1) b e L->Sort.SortedIn Sort.ltInt (mid+1) b L->Sort.Below Sort.ltInt a mid L/\∀R,Sort.PermIn a mid L R->Sort.SortedIn Sort.ltInt a mid R->Sort.PermIn a b d R/\Sort.SortedIn Sort.ltInt a b R)->
   K (.tup [.v (.int .i64 mid),.sb r]) [jE e]):
  AC 340 [.os 0 1 0 n,.v (.int .i64 a),.v (.int .i64 b),.v (.int .i64 p)] [jE d] K:=by
 subst hn;obtain⟨h1,h2,h3,h4,h5,h6,h7⟩:=Sort.round_part Sort.swo_ltInt (Sort.partition_holds Sort.ltInt) hap hpb hb hB rfl;exact aLL d a b p hap hpb hb hsz (hK _ _ _ h1 h2 h3 h4 h5 h6 h7)
end
theorem aSj:∀(N n:Nat) (d:Array Int) (a b limit:Nat) {K:KT},b-a<N->d.size=n->a<=b->b<=n->n<1000000000000->limit<1000->Sort.Below Sort.ltInt a b d->(∀e,Sort.PermIn a b d e->Sort.SortedIn Sort.ltInt a b e->K (.tup []) [jE e])->
  AC 325 [.os 0 1 0 n,.v (.int .i64 a),.v (.int .i64 b),.v (.int .i64 limit)] [jE d] K:=by
 intro N
 induction N with
 |zero=>intro n d a b limit K h;omega
 |succ N ih=>
  intro n d a b limit K hN hn hab hb hsz hlim hBel hK;refine aQr rfl rfl ?_;(repeat' ((conv=>whnf);first|refine zG ?_|apply zA|intro h|exact zT));all_goals conv=>whnf
  refine gV (Nat×Nat×Nat×AV×AV×Array Int) (fun g=>⟨1,[(0,jE g.2.2.2.2.2)],[(0,.os 0 1 0 n),(1,.v (.int .i64 g.1)),(2,.v (.int .i64 g.2.1)),(3,.v (.int .i64 g.2.2.1)),(8,g.2.2.2.1),(9,g.2.2.2.2.1)]⟩)
   (fun g=>a<=g.1/\g.1<=g.2.1/\g.2.1<=b/\g.2.2.1<=limit/\(g.2.2.2.1=.v (.bool true)\/∃c,g.2.2.2.1=.sb c)/\(g.2.2.2.2.1=.v (.bool true)\/∃c,g.2.2.2.2.1=.sb c)/\g.2.2.2.2.2.size=n/\Sort.Below Sort.ltInt g.1 g.2.1 g.2.2.2.2.2/\
    ∀R,Sort.PermIn g.1 g.2.1 g.2.2.2.2.2 R->Sort.SortedIn Sort.ltInt g.1 g.2.1 R->Sort.PermIn a b d R/\Sort.SortedIn Sort.ltInt a b R)
   (fun g=>g.2.1-g.1) (a,b,limit,.v (.bool true),.v (.bool true),d) ⟨aO _,hab,aO _,aO _,.inl rfl,.inl rfl,hn,hBel,fun R h1 h2=>⟨h1,h2⟩⟩ ?_ ?_
  ·exact leA
  rintro⟨a1,b1,l1,vb,vp,e⟩ ⟨ha1,hab1,hb1,hl1,hvb,hvp,hes,hB,hfin⟩
  simp only at ha1 hab1 hb1 hl1 hvb hvp hes hB hfin⊢;have hd1:((b1:Int)-a1<=12)=(b1-a1<=12):=by apply propext;omega
  rcases aD 12 (b1-a1)with h12|h12
  ·rcases cV l1 with h0|h0
   ·subst h0;(repeat' ((conv=>whnf);first|(with_reducible refine aFt hes a1 b1 hsz zo zo fun r h1 h2=>?_)|refine zG ?_|apply zA|intro h|exact zT));all_goals conv=>whnf
    exact hK r (hfin r h1 h2).1 (hfin r h1 h2).2
   ·rcases hvb with rfl|⟨c,rfl⟩<;>rcases hvp with rfl|⟨c',rfl⟩
    ·have hl1:(l1:Int)-1=((l1-1:Nat):Int):=by omega
     (repeat' ((conv=>whnf);first|refine zG ?_|apply zA|intro h|exact zT));all_goals conv=>whnf
     refine iD (Nat×Array Int) (fun g=>⟨1,[(0,jE g.2)],[(0,.os 0 1 0 n),(1,.v (.int .i64 a1)),(2,.v (.int .i64 b1)),(3,.v (.int .i64 g.1)),(8,.v (.bool true)),(9,.v (.bool true)),(10,.v (.int .i64 ((b1:Int)-a1)))]⟩) (fun g=>g.1<=limit/\Sort.PermIn a1 b1 e g.2) ?_ ?_
     ·(repeat' ((conv=>whnf);first|(with_reducible refine N3 hes a1 b1 hsz zo zo fun e1 he1=>?_)|refine zG ?_|apply zA|intro h|exact zT));all_goals conv=>whnf
      all_goals first
       |(refine⟨(l1-1,e1),⟨by dsimp only;omega,he1⟩,?_⟩
         dsimp only;rw[<-hl1];(exact leA))
       |(refine⟨(l1,e),⟨by assumption,Sort.permIn_refl _ _ _⟩,?_⟩
         (exact leA))
     rintro⟨l2,e1⟩ ⟨hl2,he1⟩
     simp only at hl2 he1⊢;have he1s:e1.size=n:=he1.1.trans hes;(repeat' ((conv=>whnf);first|(with_reducible refine N5 he1s a1 b1 hsz zo zo fun p hh hp1 hp2=>?_)|refine zG ?_|apply zA|intro h|exact zT));all_goals conv=>whnf
     refine iD (Nat×Int×Array Int) (fun g=>⟨1,[(0,jE g.2.2)],[(0,.os 0 1 0 n),(1,.v (.int .i64 a1)),(2,.v (.int .i64 b1)),(3,.v (.int .i64 l2)),(8,.v (.bool true)),(9,.v (.bool true)),(10,.v (.int .i64 ((b1:Int)-a1))),(11,.v (.int .i64 g.1)),(12,.v (.int .i64 g.2.1))]⟩) (fun g=>a1<=g.1/\g.1<b1/\Sort.PermIn a1 b1 e g.2.2) ?_ ?_
     ·(repeat' ((conv=>whnf);first|(with_reducible refine N6 he1s a1 b1 hsz zo zo fun e2 he2=>?_)|refine zG ?_|apply zA|intro h|exact zT));all_goals conv=>whnf
      all_goals first
       |(refine⟨((b1-1)-(p-a1),1,e2),⟨by dsimp only;omega,by dsimp only;omega,Sort.permIn_trans _ _ _ _ _ he1 he2⟩,?_⟩
         dsimp only;rw[show(((b1-1)-(p-a1):Nat):Int)=(b1:Int)-1-((p:Int)-a1) by omega];(exact leA))
       |(refine⟨(p,hh,e1),⟨hp1,hp2,he1⟩,?_⟩
         (exact leA))
     rintro⟨p2,h2,e2⟩ ⟨hp21,hp22,he2⟩
     simp only at hp21 hp22 he2⊢;clear he1s he1 e1 hp1 hp2 p hh;have he2s:e2.size=n:=he2.1.trans hes;have hB2:=hB.perm zo he2;refine iD (Array Int) (fun g=>⟨1,[(0,jE g)],[(0,.os 0 1 0 n),(1,.v (.int .i64 a1)),(2,.v (.int .i64 b1)),(3,.v (.int .i64 l2)),(8,.v (.bool true)),(9,.v (.bool true)),(10,.v (.int .i64 ((b1:Int)-a1))),(11,.v (.int .i64 p2))]⟩) (fun g=>Sort.PermIn a1 b1 e g) ?_ ?_
     ·have stay:∃g:Array Int,Sort.PermIn a1 b1 e g/\g=e2:=⟨e2,he2,rfl⟩
      have pins:∀{K:KT},(∀e (r:Bool),Sort.PermIn a1 b1 e2 e->(r=true->Sort.SortedIn Sort.ltInt a1 b1 e)->K (.sb r) [jE e])->AC 337 [.os 0 1 0 n,.v (.int .i64 a1),.v (.int .i64 b1)] [jE e2] K:=fun h=>Ht he2s a1 b1 hsz zo zo hB2 h;(repeat' ((conv=>whnf);first|(with_reducible refine pins fun e3 r he3 hr=>?_)|refine zG ?_|apply zA|intro h|exact zT));all_goals conv=>whnf
      all_goals first
       |exact hK e3 (hfin e3 (Sort.permIn_trans _ _ _ _ _ he2 he3) (hr zp)).1 (hfin e3 (Sort.permIn_trans _ _ _ _ _ he2 he3) (hr zp)).2
       |(refine⟨e3,Sort.permIn_trans _ _ _ _ _ he2 he3,?_⟩
         (exact leA))
       |(refine⟨e2,he2,?_⟩
         (exact leA))
     intro e3 he3;have he3s:e3.size=n:=he3.1.trans hes;have hB3:=hB.perm zo he3;have hw8:∀{K:Int->Prop},K (((b1-a1)/8:Nat):Int)->Wr .i64 (((b1:Int)-a1).tdiv 8) K:=fun h=>jO (by rw[dD zo];omega) zo zo h;have n2:p2<n:=by omega
     have n2':p2<e3.size:=by omega
     have part:∀{Q:Prop},Q->Q:=fun h=>h;rcases cV a1 with ha0|ha0
     ·(repeat' ((conv=>whnf);first|refine zG ?_|apply zA|intro h|exact zT));all_goals conv=>whnf
      refine sW he3s a1 b1 hsz p2 hp21 hp22 zo hB3 fun e4 mid r k1 k2 k3 k4 k5 k6 k7=>?_;have hr1:∀{K:KT},(∀L,Sort.PermIn a1 mid e4 L->Sort.SortedIn Sort.ltInt a1 mid L->K (.tup []) [jE L])->AC 325 [.os 0 1 0 n,.v (.int .i64 a1),.v (.int .i64 mid),.v (.int .i64 l2)] [jE e4] K:=fun h=>ih n e4 a1 mid l2 zo k3 k1 zo hsz zo k4 h;have hr2:∀{K:KT},(∀L,Sort.PermIn (mid+1) b1 e4 L->Sort.SortedIn Sort.ltInt (mid+1) b1 L->K (.tup []) [jE L])->AC 325 [.os 0 1 0 n,.v (.int .i64 ((mid:Int)+1)),.v (.int .i64 b1),.v (.int .i64 l2)] [jE e4] K:=fun h=>by
       rw[show(mid:Int)+1=((mid+1:Nat):Int) by omega];exact ih n e4 (mid+1) b1 l2 zo k3 zo zo hsz zo k5 h
      (repeat' ((conv=>whnf);first|(with_reducible first|refine hw8 ?_|refine hr1 fun L hL hs=>?_|refine hr2 fun L hL hs=>?_)|refine zG ?_|apply zA|intro h|exact zT));all_goals conv=>whnf
      ·obtain⟨m1,m2⟩:=k6 L hL hs;refine⟨(mid+1,b1,l2,.sb (decide ((((b1-a1)/8:Nat):Int)<=(mid:Int)-a1)),.sb r,L),⟨by dsimp only;omega,by dsimp only;omega,by dsimp only;omega,by dsimp only;assumption,.inr ⟨_,rfl⟩,.inr ⟨_,rfl⟩,hL.1.trans k3,m1,fun R q1 q2=>?_⟩,by dsimp only;omega,?_⟩
       ·obtain⟨q3,q4⟩:=m2 R q1 q2;exact hfin R (Sort.permIn_trans _ _ _ _ _ he3 q3) q4
       ·dsimp only;rw[show((mid+1:Nat):Int)=(mid:Int)+1 by omega];exact leA
      ·obtain⟨m1,m2⟩:=k7 L hL hs;refine⟨(a1,mid,l2,.sb (decide ((((b1-a1)/8:Nat):Int)<=(b1:Int)-mid)),.sb r,L),⟨by dsimp only;omega,by dsimp only;omega,by dsimp only;omega,by dsimp only;assumption,.inr ⟨_,rfl⟩,.inr ⟨_,rfl⟩,hL.1.trans k3,m1,fun R q1 q2=>?_⟩,by dsimp only;omega,?_⟩
       ·obtain⟨q3,q4⟩:=m2 R q1 q2;exact hfin R (Sort.permIn_trans _ _ _ _ _ he3 q3) q4
       ·exact leA
     ·have n1':a1-1<e3.size:=by omega
      (repeat' ((conv=>whnf);first|(with_reducible refine nU _ _ ?_)|(refine iB (a1-1) zo zo ?_)|(with_reducible first|refine iJ n2 ?_|refine lE n1' ?_|refine lE n2' ?_)|refine zG ?_|apply zA|intro h|exact zT));all_goals conv=>whnf
      ·refine sW he3s a1 b1 hsz p2 hp21 hp22 zo hB3 fun e4 mid r k1 k2 k3 k4 k5 k6 k7=>?_;have hr1:∀{K:KT},(∀L,Sort.PermIn a1 mid e4 L->Sort.SortedIn Sort.ltInt a1 mid L->K (.tup []) [jE L])->AC 325 [.os 0 1 0 n,.v (.int .i64 a1),.v (.int .i64 mid),.v (.int .i64 l2)] [jE e4] K:=fun h=>ih n e4 a1 mid l2 zo k3 k1 zo hsz zo k4 h;have hr2:∀{K:KT},(∀L,Sort.PermIn (mid+1) b1 e4 L->Sort.SortedIn Sort.ltInt (mid+1) b1 L->K (.tup []) [jE L])->AC 325 [.os 0 1 0 n,.v (.int .i64 ((mid:Int)+1)),.v (.int .i64 b1),.v (.int .i64 l2)] [jE e4] K:=fun h=>by
        rw[show(mid:Int)+1=((mid+1:Nat):Int) by omega];exact ih n e4 (mid+1) b1 l2 zo k3 zo zo hsz zo k5 h
       (repeat' ((conv=>whnf);first|(with_reducible first|refine hw8 ?_|refine hr1 fun L hL hs=>?_|refine hr2 fun L hL hs=>?_)|refine zG ?_|apply zA|intro h|exact zT));all_goals conv=>whnf
       ·obtain⟨m1,m2⟩:=k6 L hL hs;refine⟨(mid+1,b1,l2,.sb (decide ((((b1-a1)/8:Nat):Int)<=(mid:Int)-a1)),.sb r,L),⟨by dsimp only;omega,by dsimp only;omega,by dsimp only;omega,by dsimp only;assumption,.inr ⟨_,rfl⟩,.inr ⟨_,rfl⟩,hL.1.trans k3,m1,fun R q1 q2=>?_⟩,by dsimp only;omega,?_⟩
        ·obtain⟨q3,q4⟩:=m2 R q1 q2;exact hfin R (Sort.permIn_trans _ _ _ _ _ he3 q3) q4
        ·dsimp only;rw[show((mid+1:Nat):Int)=(mid:Int)+1 by omega];exact leA
       ·obtain⟨m1,m2⟩:=k7 L hL hs;refine⟨(a1,mid,l2,.sb (decide ((((b1-a1)/8:Nat):Int)<=(b1:Int)-mid)),.sb r,L),⟨by dsimp only;omega,by dsimp only;omega,by dsimp only;omega,by dsimp only;assumption,.inr ⟨_,rfl⟩,.inr ⟨_,rfl⟩,hL.1.trans k3,m1,fun R q1 q2=>?_⟩,by dsimp only;omega,?_⟩
        ·obtain⟨q3,q4⟩:=m2 R q1 q2;exact hfin R (Sort.permIn_trans _ _ _ _ _ he3 q3) q4
        ·exact leA
      ·refine N4 he3s a1 b1 hsz p2 hp21 hp22 zo ha0 hB3 zp fun e4 mid k1 k2 k3 k4 k5=>?_;(repeat' ((conv=>whnf);first|refine zG ?_|apply zA|intro h|exact zT));all_goals conv=>whnf
       refine⟨(mid,b1,l2,.v (.bool true),.v (.bool true),e4),⟨by dsimp only;omega,by dsimp only;omega,by dsimp only;omega,by dsimp only;assumption,.inl rfl,.inl rfl,k3,k4,fun R q1 q2=>?_⟩,by dsimp only;omega,?_⟩
       ·obtain⟨q3,q4⟩:=k5 R q1 q2;exact hfin R (Sort.permIn_trans _ _ _ _ _ he3 q3) q4
       ·exact leA
    ·have hl1:(l1:Int)-1=((l1-1:Nat):Int):=by omega
     (repeat' ((conv=>whnf);first|refine zG ?_|apply zA|intro h|exact zT));all_goals conv=>whnf
     refine iD (Nat×Array Int) (fun g=>⟨1,[(0,jE g.2)],[(0,.os 0 1 0 n),(1,.v (.int .i64 a1)),(2,.v (.int .i64 b1)),(3,.v (.int .i64 g.1)),(8,.v (.bool true)),(9,.sb c'),(10,.v (.int .i64 ((b1:Int)-a1)))]⟩) (fun g=>g.1<=limit/\Sort.PermIn a1 b1 e g.2) ?_ ?_
     ·(repeat' ((conv=>whnf);first|(with_reducible refine N3 hes a1 b1 hsz zo zo fun e1 he1=>?_)|refine zG ?_|apply zA|intro h|exact zT));all_goals conv=>whnf
      all_goals first
       |(refine⟨(l1-1,e1),⟨by dsimp only;omega,he1⟩,?_⟩
         dsimp only;rw[<-hl1];(exact leA))
       |(refine⟨(l1,e),⟨by assumption,Sort.permIn_refl _ _ _⟩,?_⟩
         (exact leA))
     rintro⟨l2,e1⟩ ⟨hl2,he1⟩
     simp only at hl2 he1⊢;have he1s:e1.size=n:=he1.1.trans hes;(repeat' ((conv=>whnf);first|(with_reducible refine N5 he1s a1 b1 hsz zo zo fun p hh hp1 hp2=>?_)|refine zG ?_|apply zA|intro h|exact zT));all_goals conv=>whnf
     refine iD (Nat×Int×Array Int) (fun g=>⟨1,[(0,jE g.2.2)],[(0,.os 0 1 0 n),(1,.v (.int .i64 a1)),(2,.v (.int .i64 b1)),(3,.v (.int .i64 l2)),(8,.v (.bool true)),(9,.sb c'),(10,.v (.int .i64 ((b1:Int)-a1))),(11,.v (.int .i64 g.1)),(12,.v (.int .i64 g.2.1))]⟩) (fun g=>a1<=g.1/\g.1<b1/\Sort.PermIn a1 b1 e g.2.2) ?_ ?_
     ·(repeat' ((conv=>whnf);first|(with_reducible refine N6 he1s a1 b1 hsz zo zo fun e2 he2=>?_)|refine zG ?_|apply zA|intro h|exact zT));all_goals conv=>whnf
      all_goals first
       |(refine⟨((b1-1)-(p-a1),1,e2),⟨by dsimp only;omega,by dsimp only;omega,Sort.permIn_trans _ _ _ _ _ he1 he2⟩,?_⟩
         dsimp only;rw[show(((b1-1)-(p-a1):Nat):Int)=(b1:Int)-1-((p:Int)-a1) by omega];(exact leA))
       |(refine⟨(p,hh,e1),⟨hp1,hp2,he1⟩,?_⟩
         (exact leA))
     rintro⟨p2,h2,e2⟩ ⟨hp21,hp22,he2⟩
     simp only at hp21 hp22 he2⊢;clear he1s he1 e1 hp1 hp2 p hh;have he2s:e2.size=n:=he2.1.trans hes;have hB2:=hB.perm zo he2;refine iD (Array Int) (fun g=>⟨1,[(0,jE g)],[(0,.os 0 1 0 n),(1,.v (.int .i64 a1)),(2,.v (.int .i64 b1)),(3,.v (.int .i64 l2)),(8,.v (.bool true)),(9,.sb c'),(10,.v (.int .i64 ((b1:Int)-a1))),(11,.v (.int .i64 p2))]⟩) (fun g=>Sort.PermIn a1 b1 e g) ?_ ?_
     ·have stay:∃g:Array Int,Sort.PermIn a1 b1 e g/\g=e2:=⟨e2,he2,rfl⟩
      have pins:∀{K:KT},(∀e (r:Bool),Sort.PermIn a1 b1 e2 e->(r=true->Sort.SortedIn Sort.ltInt a1 b1 e)->K (.sb r) [jE e])->AC 337 [.os 0 1 0 n,.v (.int .i64 a1),.v (.int .i64 b1)] [jE e2] K:=fun h=>Ht he2s a1 b1 hsz zo zo hB2 h;(repeat' ((conv=>whnf);first|(with_reducible refine pins fun e3 r he3 hr=>?_)|refine zG ?_|apply zA|intro h|exact zT));all_goals conv=>whnf
      all_goals first
       |exact hK e3 (hfin e3 (Sort.permIn_trans _ _ _ _ _ he2 he3) (hr zp)).1 (hfin e3 (Sort.permIn_trans _ _ _ _ _ he2 he3) (hr zp)).2
       |(refine⟨e3,Sort.permIn_trans _ _ _ _ _ he2 he3,?_⟩
         (exact leA))
       |(refine⟨e2,he2,?_⟩
         (exact leA))
     intro e3 he3;have he3s:e3.size=n:=he3.1.trans hes;have hB3:=hB.perm zo he3;have hw8:∀{K:Int->Prop},K (((b1-a1)/8:Nat):Int)->Wr .i64 (((b1:Int)-a1).tdiv 8) K:=fun h=>jO (by rw[dD zo];omega) zo zo h;have n2:p2<n:=by omega
     have n2':p2<e3.size:=by omega
     have part:∀{Q:Prop},Q->Q:=fun h=>h;rcases cV a1 with ha0|ha0
     ·(repeat' ((conv=>whnf);first|refine zG ?_|apply zA|intro h|exact zT));all_goals conv=>whnf
      refine sW he3s a1 b1 hsz p2 hp21 hp22 zo hB3 fun e4 mid r k1 k2 k3 k4 k5 k6 k7=>?_;have hr1:∀{K:KT},(∀L,Sort.PermIn a1 mid e4 L->Sort.SortedIn Sort.ltInt a1 mid L->K (.tup []) [jE L])->AC 325 [.os 0 1 0 n,.v (.int .i64 a1),.v (.int .i64 mid),.v (.int .i64 l2)] [jE e4] K:=fun h=>ih n e4 a1 mid l2 zo k3 k1 zo hsz zo k4 h;have hr2:∀{K:KT},(∀L,Sort.PermIn (mid+1) b1 e4 L->Sort.SortedIn Sort.ltInt (mid+1) b1 L->K (.tup []) [jE L])->AC 325 [.os 0 1 0 n,.v (.int .i64 ((mid:Int)+1)),.v (.int .i64 b1),.v (.int .i64 l2)] [jE e4] K:=fun h=>by
       rw[show(mid:Int)+1=((mid+1:Nat):Int) by omega];exact ih n e4 (mid+1) b1 l2 zo k3 zo zo hsz zo k5 h
      (repeat' ((conv=>whnf);first|(with_reducible first|refine hw8 ?_|refine hr1 fun L hL hs=>?_|refine hr2 fun L hL hs=>?_)|refine zG ?_|apply zA|intro h|exact zT));all_goals conv=>whnf
      ·obtain⟨m1,m2⟩:=k6 L hL hs;refine⟨(mid+1,b1,l2,.sb (decide ((((b1-a1)/8:Nat):Int)<=(mid:Int)-a1)),.sb r,L),⟨by dsimp only;omega,by dsimp only;omega,by dsimp only;omega,by dsimp only;assumption,.inr ⟨_,rfl⟩,.inr ⟨_,rfl⟩,hL.1.trans k3,m1,fun R q1 q2=>?_⟩,by dsimp only;omega,?_⟩
       ·obtain⟨q3,q4⟩:=m2 R q1 q2;exact hfin R (Sort.permIn_trans _ _ _ _ _ he3 q3) q4
       ·dsimp only;rw[show((mid+1:Nat):Int)=(mid:Int)+1 by omega];exact leA
      ·obtain⟨m1,m2⟩:=k7 L hL hs;refine⟨(a1,mid,l2,.sb (decide ((((b1-a1)/8:Nat):Int)<=(b1:Int)-mid)),.sb r,L),⟨by dsimp only;omega,by dsimp only;omega,by dsimp only;omega,by dsimp only;assumption,.inr ⟨_,rfl⟩,.inr ⟨_,rfl⟩,hL.1.trans k3,m1,fun R q1 q2=>?_⟩,by dsimp only;omega,?_⟩
       ·obtain⟨q3,q4⟩:=m2 R q1 q2;exact hfin R (Sort.permIn_trans _ _ _ _ _ he3 q3) q4
       ·exact leA
     ·have n1':a1-1<e3.size:=by omega
      (repeat' ((conv=>whnf);first|(with_reducible refine nU _ _ ?_)|(refine iB (a1-1) zo zo ?_)|(with_reducible first|refine iJ n2 ?_|refine lE n1' ?_|refine lE n2' ?_)|refine zG ?_|apply zA|intro h|exact zT));all_goals conv=>whnf
      ·refine sW he3s a1 b1 hsz p2 hp21 hp22 zo hB3 fun e4 mid r k1 k2 k3 k4 k5 k6 k7=>?_;have hr1:∀{K:KT},(∀L,Sort.PermIn a1 mid e4 L->Sort.SortedIn Sort.ltInt a1 mid L->K (.tup []) [jE L])->AC 325 [.os 0 1 0 n,.v (.int .i64 a1),.v (.int .i64 mid),.v (.int .i64 l2)] [jE e4] K:=fun h=>ih n e4 a1 mid l2 zo k3 k1 zo hsz zo k4 h;have hr2:∀{K:KT},(∀L,Sort.PermIn (mid+1) b1 e4 L->Sort.SortedIn Sort.ltInt (mid+1) b1 L->K (.tup []) [jE L])->AC 325 [.os 0 1 0 n,.v (.int .i64 ((mid:Int)+1)),.v (.int .i64 b1),.v (.int .i64 l2)] [jE e4] K:=fun h=>by
        rw[show(mid:Int)+1=((mid+1:Nat):Int) by omega];exact ih n e4 (mid+1) b1 l2 zo k3 zo zo hsz zo k5 h
       (repeat' ((conv=>whnf);first|(with_reducible first|refine hw8 ?_|refine hr1 fun L hL hs=>?_|refine hr2 fun L hL hs=>?_)|refine zG ?_|apply zA|intro h|exact zT));all_goals conv=>whnf
       ·obtain⟨m1,m2⟩:=k6 L hL hs;refine⟨(mid+1,b1,l2,.sb (decide ((((b1-a1)/8:Nat):Int)<=(mid:Int)-a1)),.sb r,L),⟨by dsimp only;omega,by dsimp only;omega,by dsimp only;omega,by dsimp only;assumption,.inr ⟨_,rfl⟩,.inr ⟨_,rfl⟩,hL.1.trans k3,m1,fun R q1 q2=>?_⟩,by dsimp only;omega,?_⟩
        ·obtain⟨q3,q4⟩:=m2 R q1 q2;exact hfin R (Sort.permIn_trans _ _ _ _ _ he3 q3) q4
        ·dsimp only;rw[show((mid+1:Nat):Int)=(mid:Int)+1 by omega];exact leA
       ·obtain⟨m1,m2⟩:=k7 L hL hs;refine⟨(a1,mid,l2,.sb (decide ((((b1-a1)/8:Nat):Int)<=(b1:Int)-mid)),.sb r,L),⟨by dsimp only;omega,by dsimp only;omega,by dsimp only;omega,by dsimp only;assumption,.inr ⟨_,rfl⟩,.inr ⟨_,rfl⟩,hL.1.trans k3,m1,fun R q1 q2=>?_⟩,by dsimp only;omega,?_⟩
        ·obtain⟨q3,q4⟩:=m2 R q1 q2;exact hfin R (Sort.permIn_trans _ _ _ _ _ he3 q3) q4
        ·exact leA
      ·refine N4 he3s a1 b1 hsz p2 hp21 hp22 zo ha0 hB3 zp fun e4 mid k1 k2 k3 k4 k5=>?_;(repeat' ((conv=>whnf);first|refine zG ?_|apply zA|intro h|exact zT));all_goals conv=>whnf
       refine⟨(mid,b1,l2,.v (.bool true),.sb c',e4),⟨by dsimp only;omega,by dsimp only;omega,by dsimp only;omega,by dsimp only;assumption,.inl rfl,.inr ⟨_,rfl⟩,k3,k4,fun R q1 q2=>?_⟩,by dsimp only;omega,?_⟩
       ·obtain⟨q3,q4⟩:=k5 R q1 q2;exact hfin R (Sort.permIn_trans _ _ _ _ _ he3 q3) q4
       ·exact leA
    ·have hl1:(l1:Int)-1=((l1-1:Nat):Int):=by omega
     (repeat' ((conv=>whnf);first|refine zG ?_|apply zA|intro h|exact zT));all_goals conv=>whnf
     refine iD (Nat×Array Int) (fun g=>⟨1,[(0,jE g.2)],[(0,.os 0 1 0 n),(1,.v (.int .i64 a1)),(2,.v (.int .i64 b1)),(3,.v (.int .i64 g.1)),(8,.sb c),(9,.v (.bool true)),(10,.v (.int .i64 ((b1:Int)-a1)))]⟩) (fun g=>g.1<=limit/\Sort.PermIn a1 b1 e g.2) ?_ ?_
     ·(repeat' ((conv=>whnf);first|(with_reducible refine N3 hes a1 b1 hsz zo zo fun e1 he1=>?_)|refine zG ?_|apply zA|intro h|exact zT));all_goals conv=>whnf
      all_goals first
       |(refine⟨(l1-1,e1),⟨by dsimp only;omega,he1⟩,?_⟩
         dsimp only;rw[<-hl1];(exact leA))
       |(refine⟨(l1,e),⟨by assumption,Sort.permIn_refl _ _ _⟩,?_⟩
         (exact leA))
     rintro⟨l2,e1⟩ ⟨hl2,he1⟩
     simp only at hl2 he1⊢;have he1s:e1.size=n:=he1.1.trans hes;(repeat' ((conv=>whnf);first|(with_reducible refine N5 he1s a1 b1 hsz zo zo fun p hh hp1 hp2=>?_)|refine zG ?_|apply zA|intro h|exact zT));all_goals conv=>whnf
     refine iD (Nat×Int×Array Int) (fun g=>⟨1,[(0,jE g.2.2)],[(0,.os 0 1 0 n),(1,.v (.int .i64 a1)),(2,.v (.int .i64 b1)),(3,.v (.int .i64 l2)),(8,.sb c),(9,.v (.bool true)),(10,.v (.int .i64 ((b1:Int)-a1))),(11,.v (.int .i64 g.1)),(12,.v (.int .i64 g.2.1))]⟩) (fun g=>a1<=g.1/\g.1<b1/\Sort.PermIn a1 b1 e g.2.2) ?_ ?_
     ·(repeat' ((conv=>whnf);first|(with_reducible refine N6 he1s a1 b1 hsz zo zo fun e2 he2=>?_)|refine zG ?_|apply zA|intro h|exact zT));all_goals conv=>whnf
      all_goals first
       |(refine⟨((b1-1)-(p-a1),1,e2),⟨by dsimp only;omega,by dsimp only;omega,Sort.permIn_trans _ _ _ _ _ he1 he2⟩,?_⟩
         dsimp only;rw[show(((b1-1)-(p-a1):Nat):Int)=(b1:Int)-1-((p:Int)-a1) by omega];(exact leA))
       |(refine⟨(p,hh,e1),⟨hp1,hp2,he1⟩,?_⟩
         (exact leA))
     rintro⟨p2,h2,e2⟩ ⟨hp21,hp22,he2⟩
     simp only at hp21 hp22 he2⊢;clear he1s he1 e1 hp1 hp2 p hh;have he2s:e2.size=n:=he2.1.trans hes;have hB2:=hB.perm zo he2;refine iD (Array Int) (fun g=>⟨1,[(0,jE g)],[(0,.os 0 1 0 n),(1,.v (.int .i64 a1)),(2,.v (.int .i64 b1)),(3,.v (.int .i64 l2)),(8,.sb c),(9,.v (.bool true)),(10,.v (.int .i64 ((b1:Int)-a1))),(11,.v (.int .i64 p2))]⟩) (fun g=>Sort.PermIn a1 b1 e g) ?_ ?_
     ·have stay:∃g:Array Int,Sort.PermIn a1 b1 e g/\g=e2:=⟨e2,he2,rfl⟩
      have pins:∀{K:KT},(∀e (r:Bool),Sort.PermIn a1 b1 e2 e->(r=true->Sort.SortedIn Sort.ltInt a1 b1 e)->K (.sb r) [jE e])->AC 337 [.os 0 1 0 n,.v (.int .i64 a1),.v (.int .i64 b1)] [jE e2] K:=fun h=>Ht he2s a1 b1 hsz zo zo hB2 h;(repeat' ((conv=>whnf);first|(with_reducible refine pins fun e3 r he3 hr=>?_)|refine zG ?_|apply zA|intro h|exact zT));all_goals conv=>whnf
      all_goals first
       |exact hK e3 (hfin e3 (Sort.permIn_trans _ _ _ _ _ he2 he3) (hr zp)).1 (hfin e3 (Sort.permIn_trans _ _ _ _ _ he2 he3) (hr zp)).2
       |(refine⟨e3,Sort.permIn_trans _ _ _ _ _ he2 he3,?_⟩
         (exact leA))
       |(refine⟨e2,he2,?_⟩
         (exact leA))
     intro e3 he3;have he3s:e3.size=n:=he3.1.trans hes;have hB3:=hB.perm zo he3;have hw8:∀{K:Int->Prop},K (((b1-a1)/8:Nat):Int)->Wr .i64 (((b1:Int)-a1).tdiv 8) K:=fun h=>jO (by rw[dD zo];omega) zo zo h;have n2:p2<n:=by omega
     have n2':p2<e3.size:=by omega
     have part:∀{Q:Prop},Q->Q:=fun h=>h;rcases cV a1 with ha0|ha0
     ·(repeat' ((conv=>whnf);first|refine zG ?_|apply zA|intro h|exact zT));all_goals conv=>whnf
      refine sW he3s a1 b1 hsz p2 hp21 hp22 zo hB3 fun e4 mid r k1 k2 k3 k4 k5 k6 k7=>?_;have hr1:∀{K:KT},(∀L,Sort.PermIn a1 mid e4 L->Sort.SortedIn Sort.ltInt a1 mid L->K (.tup []) [jE L])->AC 325 [.os 0 1 0 n,.v (.int .i64 a1),.v (.int .i64 mid),.v (.int .i64 l2)] [jE e4] K:=fun h=>ih n e4 a1 mid l2 zo k3 k1 zo hsz zo k4 h;have hr2:∀{K:KT},(∀L,Sort.PermIn (mid+1) b1 e4 L->Sort.SortedIn Sort.ltInt (mid+1) b1 L->K (.tup []) [jE L])->AC 325 [.os 0 1 0 n,.v (.int .i64 ((mid:Int)+1)),.v (.int .i64 b1),.v (.int .i64 l2)] [jE e4] K:=fun h=>by
       rw[show(mid:Int)+1=((mid+1:Nat):Int) by omega];exact ih n e4 (mid+1) b1 l2 zo k3 zo zo hsz zo k5 h
      (repeat' ((conv=>whnf);first|(with_reducible first|refine hw8 ?_|refine hr1 fun L hL hs=>?_|refine hr2 fun L hL hs=>?_)|refine zG ?_|apply zA|intro h|exact zT));all_goals conv=>whnf
      ·obtain⟨m1,m2⟩:=k6 L hL hs;refine⟨(mid+1,b1,l2,.sb (decide ((((b1-a1)/8:Nat):Int)<=(mid:Int)-a1)),.sb r,L),⟨by dsimp only;omega,by dsimp only;omega,by dsimp only;omega,by dsimp only;assumption,.inr ⟨_,rfl⟩,.inr ⟨_,rfl⟩,hL.1.trans k3,m1,fun R q1 q2=>?_⟩,by dsimp only;omega,?_⟩
       ·obtain⟨q3,q4⟩:=m2 R q1 q2;exact hfin R (Sort.permIn_trans _ _ _ _ _ he3 q3) q4
       ·dsimp only;rw[show((mid+1:Nat):Int)=(mid:Int)+1 by omega];exact leA
      ·obtain⟨m1,m2⟩:=k7 L hL hs;refine⟨(a1,mid,l2,.sb (decide ((((b1-a1)/8:Nat):Int)<=(b1:Int)-mid)),.sb r,L),⟨by dsimp only;omega,by dsimp only;omega,by dsimp only;omega,by dsimp only;assumption,.inr ⟨_,rfl⟩,.inr ⟨_,rfl⟩,hL.1.trans k3,m1,fun R q1 q2=>?_⟩,by dsimp only;omega,?_⟩
       ·obtain⟨q3,q4⟩:=m2 R q1 q2;exact hfin R (Sort.permIn_trans _ _ _ _ _ he3 q3) q4
       ·exact leA
     ·have n1':a1-1<e3.size:=by omega
      (repeat' ((conv=>whnf);first|(with_reducible refine nU _ _ ?_)|(refine iB (a1-1) zo zo ?_)|(with_reducible first|refine iJ n2 ?_|refine lE n1' ?_|refine lE n2' ?_)|refine zG ?_|apply zA|intro h|exact zT));all_goals conv=>whnf
      ·refine sW he3s a1 b1 hsz p2 hp21 hp22 zo hB3 fun e4 mid r k1 k2 k3 k4 k5 k6 k7=>?_;have hr1:∀{K:KT},(∀L,Sort.PermIn a1 mid e4 L->Sort.SortedIn Sort.ltInt a1 mid L->K (.tup []) [jE L])->AC 325 [.os 0 1 0 n,.v (.int .i64 a1),.v (.int .i64 mid),.v (.int .i64 l2)] [jE e4] K:=fun h=>ih n e4 a1 mid l2 zo k3 k1 zo hsz zo k4 h;have hr2:∀{K:KT},(∀L,Sort.PermIn (mid+1) b1 e4 L->Sort.SortedIn Sort.ltInt (mid+1) b1 L->K (.tup []) [jE L])->AC 325 [.os 0 1 0 n,.v (.int .i64 ((mid:Int)+1)),.v (.int .i64 b1),.v (.int .i64 l2)] [jE e4] K:=fun h=>by
        rw[show(mid:Int)+1=((mid+1:Nat):Int) by omega];exact ih n e4 (mid+1) b1 l2 zo k3 zo zo hsz zo k5 h
       (repeat' ((conv=>whnf);first|(with_reducible first|refine hw8 ?_|refine hr1 fun L hL hs=>?_|refine hr2 fun L hL hs=>?_)|refine zG ?_|apply zA|intro h|exact zT));all_goals conv=>whnf
       ·obtain⟨m1,m2⟩:=k6 L hL hs;refine⟨(mid+1,b1,l2,.sb (decide ((((b1-a1)/8:Nat):Int)<=(mid:Int)-a1)),.sb r,L),⟨by dsimp only;omega,by dsimp only;omega,by dsimp only;omega,by dsimp only;assumption,.inr ⟨_,rfl⟩,.inr ⟨_,rfl⟩,hL.1.trans k3,m1,fun R q1 q2=>?_⟩,by dsimp only;omega,?_⟩
        ·obtain⟨q3,q4⟩:=m2 R q1 q2;exact hfin R (Sort.permIn_trans _ _ _ _ _ he3 q3) q4
        ·dsimp only;rw[show((mid+1:Nat):Int)=(mid:Int)+1 by omega];exact leA
       ·obtain⟨m1,m2⟩:=k7 L hL hs;refine⟨(a1,mid,l2,.sb (decide ((((b1-a1)/8:Nat):Int)<=(b1:Int)-mid)),.sb r,L),⟨by dsimp only;omega,by dsimp only;omega,by dsimp only;omega,by dsimp only;assumption,.inr ⟨_,rfl⟩,.inr ⟨_,rfl⟩,hL.1.trans k3,m1,fun R q1 q2=>?_⟩,by dsimp only;omega,?_⟩
        ·obtain⟨q3,q4⟩:=m2 R q1 q2;exact hfin R (Sort.permIn_trans _ _ _ _ _ he3 q3) q4
        ·exact leA
      ·refine N4 he3s a1 b1 hsz p2 hp21 hp22 zo ha0 hB3 zp fun e4 mid k1 k2 k3 k4 k5=>?_;(repeat' ((conv=>whnf);first|refine zG ?_|apply zA|intro h|exact zT));all_goals conv=>whnf
       refine⟨(mid,b1,l2,.sb c,.v (.bool true),e4),⟨by dsimp only;omega,by dsimp only;omega,by dsimp only;omega,by dsimp only;assumption,.inr ⟨_,rfl⟩,.inl rfl,k3,k4,fun R q1 q2=>?_⟩,by dsimp only;omega,?_⟩
       ·obtain⟨q3,q4⟩:=k5 R q1 q2;exact hfin R (Sort.permIn_trans _ _ _ _ _ he3 q3) q4
       ·exact leA
    ·have hl1:(l1:Int)-1=((l1-1:Nat):Int):=by omega
     (repeat' ((conv=>whnf);first|refine zG ?_|apply zA|intro h|exact zT));all_goals conv=>whnf
     refine iD (Nat×Array Int) (fun g=>⟨1,[(0,jE g.2)],[(0,.os 0 1 0 n),(1,.v (.int .i64 a1)),(2,.v (.int .i64 b1)),(3,.v (.int .i64 g.1)),(8,.sb c),(9,.sb c'),(10,.v (.int .i64 ((b1:Int)-a1)))]⟩) (fun g=>g.1<=limit/\Sort.PermIn a1 b1 e g.2) ?_ ?_
     ·(repeat' ((conv=>whnf);first|(with_reducible refine N3 hes a1 b1 hsz zo zo fun e1 he1=>?_)|refine zG ?_|apply zA|intro h|exact zT));all_goals conv=>whnf
      all_goals first
       |(refine⟨(l1-1,e1),⟨by dsimp only;omega,he1⟩,?_⟩
         dsimp only;rw[<-hl1];(exact leA))
       |(refine⟨(l1,e),⟨by assumption,Sort.permIn_refl _ _ _⟩,?_⟩
         (exact leA))
     rintro⟨l2,e1⟩ ⟨hl2,he1⟩
     simp only at hl2 he1⊢;have he1s:e1.size=n:=he1.1.trans hes;(repeat' ((conv=>whnf);first|(with_reducible refine N5 he1s a1 b1 hsz zo zo fun p hh hp1 hp2=>?_)|refine zG ?_|apply zA|intro h|exact zT));all_goals conv=>whnf
     refine iD (Nat×Int×Array Int) (fun g=>⟨1,[(0,jE g.2.2)],[(0,.os 0 1 0 n),(1,.v (.int .i64 a1)),(2,.v (.int .i64 b1)),(3,.v (.int .i64 l2)),(8,.sb c),(9,.sb c'),(10,.v (.int .i64 ((b1:Int)-a1))),(11,.v (.int .i64 g.1)),(12,.v (.int .i64 g.2.1))]⟩) (fun g=>a1<=g.1/\g.1<b1/\Sort.PermIn a1 b1 e g.2.2) ?_ ?_
     ·(repeat' ((conv=>whnf);first|(with_reducible refine N6 he1s a1 b1 hsz zo zo fun e2 he2=>?_)|refine zG ?_|apply zA|intro h|exact zT));all_goals conv=>whnf
      all_goals first
       |(refine⟨((b1-1)-(p-a1),1,e2),⟨by dsimp only;omega,by dsimp only;omega,Sort.permIn_trans _ _ _ _ _ he1 he2⟩,?_⟩
         dsimp only;rw[show(((b1-1)-(p-a1):Nat):Int)=(b1:Int)-1-((p:Int)-a1) by omega];(exact leA))
       |(refine⟨(p,hh,e1),⟨hp1,hp2,he1⟩,?_⟩
         (exact leA))
     rintro⟨p2,h2,e2⟩ ⟨hp21,hp22,he2⟩
     simp only at hp21 hp22 he2⊢;clear he1s he1 e1 hp1 hp2 p hh;have he2s:e2.size=n:=he2.1.trans hes;have hB2:=hB.perm zo he2;refine iD (Array Int) (fun g=>⟨1,[(0,jE g)],[(0,.os 0 1 0 n),(1,.v (.int .i64 a1)),(2,.v (.int .i64 b1)),(3,.v (.int .i64 l2)),(8,.sb c),(9,.sb c'),(10,.v (.int .i64 ((b1:Int)-a1))),(11,.v (.int .i64 p2))]⟩) (fun g=>Sort.PermIn a1 b1 e g) ?_ ?_
     ·have stay:∃g:Array Int,Sort.PermIn a1 b1 e g/\g=e2:=⟨e2,he2,rfl⟩
      have pins:∀{K:KT},(∀e (r:Bool),Sort.PermIn a1 b1 e2 e->(r=true->Sort.SortedIn Sort.ltInt a1 b1 e)->K (.sb r) [jE e])->AC 337 [.os 0 1 0 n,.v (.int .i64 a1),.v (.int .i64 b1)] [jE e2] K:=fun h=>Ht he2s a1 b1 hsz zo zo hB2 h;(repeat' ((conv=>whnf);first|(with_reducible refine pins fun e3 r he3 hr=>?_)|refine zG ?_|apply zA|intro h|exact zT));all_goals conv=>whnf
      all_goals first
       |exact hK e3 (hfin e3 (Sort.permIn_trans _ _ _ _ _ he2 he3) (hr zp)).1 (hfin e3 (Sort.permIn_trans _ _ _ _ _ he2 he3) (hr zp)).2
       |(refine⟨e3,Sort.permIn_trans _ _ _ _ _ he2 he3,?_⟩
         (exact leA))
       |(refine⟨e2,he2,?_⟩
         (exact leA))
     intro e3 he3;have he3s:e3.size=n:=he3.1.trans hes;have hB3:=hB.perm zo he3;have hw8:∀{K:Int->Prop},K (((b1-a1)/8:Nat):Int)->Wr .i64 (((b1:Int)-a1).tdiv 8) K:=fun h=>jO (by rw[dD zo];omega) zo zo h;have n2:p2<n:=by omega
     have n2':p2<e3.size:=by omega
     have part:∀{Q:Prop},Q->Q:=fun h=>h;rcases cV a1 with ha0|ha0
     ·(repeat' ((conv=>whnf);first|refine zG ?_|apply zA|intro h|exact zT));all_goals conv=>whnf
      refine sW he3s a1 b1 hsz p2 hp21 hp22 zo hB3 fun e4 mid r k1 k2 k3 k4 k5 k6 k7=>?_;have hr1:∀{K:KT},(∀L,Sort.PermIn a1 mid e4 L->Sort.SortedIn Sort.ltInt a1 mid L->K (.tup []) [jE L])->AC 325 [.os 0 1 0 n,.v (.int .i64 a1),.v (.int .i64 mid),.v (.int .i64 l2)] [jE e4] K:=fun h=>ih n e4 a1 mid l2 zo k3 k1 zo hsz zo k4 h;have hr2:∀{K:KT},(∀L,Sort.PermIn (mid+1) b1 e4 L->Sort.SortedIn Sort.ltInt (mid+1) b1 L->K (.tup []) [jE L])->AC 325 [.os 0 1 0 n,.v (.int .i64 ((mid:Int)+1)),.v (.int .i64 b1),.v (.int .i64 l2)] [jE e4] K:=fun h=>by
       rw[show(mid:Int)+1=((mid+1:Nat):Int) by omega];exact ih n e4 (mid+1) b1 l2 zo k3 zo zo hsz zo k5 h
      (repeat' ((conv=>whnf);first|(with_reducible first|refine hw8 ?_|refine hr1 fun L hL hs=>?_|refine hr2 fun L hL hs=>?_)|refine zG ?_|apply zA|intro h|exact zT));all_goals conv=>whnf
      ·obtain⟨m1,m2⟩:=k6 L hL hs;refine⟨(mid+1,b1,l2,.sb (decide ((((b1-a1)/8:Nat):Int)<=(mid:Int)-a1)),.sb r,L),⟨by dsimp only;omega,by dsimp only;omega,by dsimp only;omega,by dsimp only;assumption,.inr ⟨_,rfl⟩,.inr ⟨_,rfl⟩,hL.1.trans k3,m1,fun R q1 q2=>?_⟩,by dsimp only;omega,?_⟩
       ·obtain⟨q3,q4⟩:=m2 R q1 q2;exact hfin R (Sort.permIn_trans _ _ _ _ _ he3 q3) q4
       ·dsimp only;rw[show((mid+1:Nat):Int)=(mid:Int)+1 by omega];exact leA
      ·obtain⟨m1,m2⟩:=k7 L hL hs;refine⟨(a1,mid,l2,.sb (decide ((((b1-a1)/8:Nat):Int)<=(b1:Int)-mid)),.sb r,L),⟨by dsimp only;omega,by dsimp only;omega,by dsimp only;omega,by dsimp only;assumption,.inr ⟨_,rfl⟩,.inr ⟨_,rfl⟩,hL.1.trans k3,m1,fun R q1 q2=>?_⟩,by dsimp only;omega,?_⟩
       ·obtain⟨q3,q4⟩:=m2 R q1 q2;exact hfin R (Sort.permIn_trans _ _ _ _ _ he3 q3) q4
       ·exact leA
     ·have n1':a1-1<e3.size:=by omega
      (repeat' ((conv=>whnf);first|(with_reducible refine nU _ _ ?_)|(refine iB (a1-1) zo zo ?_)|(with_reducible first|refine iJ n2 ?_|refine lE n1' ?_|refine lE n2' ?_)|refine zG ?_|apply zA|intro h|exact zT));all_goals conv=>whnf
      ·refine sW he3s a1 b1 hsz p2 hp21 hp22 zo hB3 fun e4 mid r k1 k2 k3 k4 k5 k6 k7=>?_;have hr1:∀{K:KT},(∀L,Sort.PermIn a1 mid e4 L->Sort.SortedIn Sort.ltInt a1 mid L->K (.tup []) [jE L])->AC 325 [.os 0 1 0 n,.v (.int .i64 a1),.v (.int .i64 mid),.v (.int .i64 l2)] [jE e4] K:=fun h=>ih n e4 a1 mid l2 zo k3 k1 zo hsz zo k4 h;have hr2:∀{K:KT},(∀L,Sort.PermIn (mid+1) b1 e4 L->Sort.SortedIn Sort.ltInt (mid+1) b1 L->K (.tup []) [jE L])->AC 325 [.os 0 1 0 n,.v (.int .i64 ((mid:Int)+1)),.v (.int .i64 b1),.v (.int .i64 l2)] [jE e4] K:=fun h=>by
        rw[show(mid:Int)+1=((mid+1:Nat):Int) by omega];exact ih n e4 (mid+1) b1 l2 zo k3 zo zo hsz zo k5 h
       (repeat' ((conv=>whnf);first|(with_reducible first|refine hw8 ?_|refine hr1 fun L hL hs=>?_|refine hr2 fun L hL hs=>?_)|refine zG ?_|apply zA|intro h|exact zT));all_goals conv=>whnf
       ·obtain⟨m1,m2⟩:=k6 L hL hs;refine⟨(mid+1,b1,l2,.sb (decide ((((b1-a1)/8:Nat):Int)<=(mid:Int)-a1)),.sb r,L),⟨by dsimp only;omega,by dsimp only;omega,by dsimp only;omega,by dsimp only;assumption,.inr ⟨_,rfl⟩,.inr ⟨_,rfl⟩,hL.1.trans k3,m1,fun R q1 q2=>?_⟩,by dsimp only;omega,?_⟩
        ·obtain⟨q3,q4⟩:=m2 R q1 q2;exact hfin R (Sort.permIn_trans _ _ _ _ _ he3 q3) q4
        ·dsimp only;rw[show((mid+1:Nat):Int)=(mid:Int)+1 by omega];exact leA
       ·obtain⟨m1,m2⟩:=k7 L hL hs;refine⟨(a1,mid,l2,.sb (decide ((((b1-a1)/8:Nat):Int)<=(b1:Int)-mid)),.sb r,L),⟨by dsimp only;omega,by dsimp only;omega,by dsimp only;omega,by dsimp only;assumption,.inr ⟨_,rfl⟩,.inr ⟨_,rfl⟩,hL.1.trans k3,m1,fun R q1 q2=>?_⟩,by dsimp only;omega,?_⟩
        ·obtain⟨q3,q4⟩:=m2 R q1 q2;exact hfin R (Sort.permIn_trans _ _ _ _ _ he3 q3) q4
        ·exact leA
      ·refine N4 he3s a1 b1 hsz p2 hp21 hp22 zo ha0 hB3 zp fun e4 mid k1 k2 k3 k4 k5=>?_;(repeat' ((conv=>whnf);first|refine zG ?_|apply zA|intro h|exact zT));all_goals conv=>whnf
       refine⟨(mid,b1,l2,.sb c,.sb c',e4),⟨by dsimp only;omega,by dsimp only;omega,by dsimp only;omega,by dsimp only;assumption,.inr ⟨_,rfl⟩,.inr ⟨_,rfl⟩,k3,k4,fun R q1 q2=>?_⟩,by dsimp only;omega,?_⟩
       ·obtain⟨q3,q4⟩:=k5 R q1 q2;exact hfin R (Sort.permIn_trans _ _ _ _ _ he3 q3) q4
       ·exact leA
  ·(repeat' ((conv=>whnf);first|(with_reducible refine aLJ hes a1 b1 hsz zo zo fun r h1 h2=>?_)|refine zG ?_|apply zA|intro h|exact zT));all_goals conv=>whnf
   exact hK r (hfin r h1 h2).1 (hfin r h1 h2).2
theorem Ep{d:Array Int}(h:Sort.SortedIn Sort.ltInt 0 d.size d):d.toList.Pairwise (· <= ·):=by
 rw[dL];intro i j hi hj hij;have:=h i j (aK _) hij (by simpa using hj);simp only[dU]at hi hj;rw[getElem!_pos d i zo,getElem!_pos d j zo]at this;simp only[Sort.ltInt,decide_eq_false_iff_not]at this;simp only[Array.getElem_toList];omega
theorem Rz{d e:Array Int}(h:Sort.PermIn 0 d.size d e):e.toList.Perm d.toList:=by
 obtain⟨h1,_,h2⟩:=h;have e1:(e.extract 0 d.size)=e:=by rw[<-h1];simp
 have e2:(d.extract 0 d.size)=d:=by simp
 rw[e1,e2]at h2;exact h2
theorem aLP(l:List Int)(hl:l.length<1000000000000){K:KT}(hK:∀l':List Int,l'.Perm l->l'.Pairwise (· <= ·)->K (.tup []) [.arr 1 (l'.map encZ)]):
  AC 311 [.os 0 1 0 l.length] [.arr 1 (l.map encZ)] K:=by
 refine aIT rfl rfl ?_;have hp:∀{K:KT} (m:Nat),m<1000->(∀e:Array Int,Sort.PermIn 0 l.length l.toArray e->Sort.SortedIn Sort.ltInt 0 l.length e->K (.tup []) [jE e])->AC 325 [.os 0 1 0 l.length,.v (.int .i64 0),.v (.int .i64 l.length),.v (.int .i64 m)] [.arr 1 (l.map encZ)] K:=fun m hm h=>
  aSj (l.length+1) l.length l.toArray 0 l.length m zo zx (aK _) (aO _) hl hm (.inl rfl) h
 (repeat' ((conv=>whnf);first|(with_reducible refine aKu l.length hl fun m hm=>?_)|refine zG ?_|apply zA|intro h|exact zT));all_goals conv=>whnf
 have hm40:=aCM hl hm;(repeat' ((conv=>whnf);first|(with_reducible refine hp m zo fun e h1 h2=>?_)|refine zG ?_|apply zA|intro h|exact zT));all_goals conv=>whnf
 have hs:e.size=l.length:=by simpa using h1.1
 refine hK e.toList ?_ ?_
 ·have:=Rz (d:=l.toArray) (e:=e) (by simpa using h1);simpa using this
 ·exact Ep (by rw[hs];exact h2)
def Lr(acc:List Int)(x:Int):List Int:=if acc.getLast?=some x then acc else acc++[x]
def comp(l:List Int):List Int:=l.foldl Lr []
theorem xL{l:List Int}{r:Nat}{x:Int}(h:l[r]? =some x):comp (l.take (r+1))=Lr (comp (l.take r)) x:=by
 simp[comp,bE,h]
theorem Yk:∀(l:List Int) {r:Nat} {x:Int},l[r]? =some x->(comp (l.take (r+1))).getLast?=some x:=by
 intro l r x h;rw[xL h,Lr];split
 ·assumption
 ·simp
theorem Ls{l:List Int}{r:Nat}{x y:Int}(h:l[r]? =some x)(h1:l[r+1]? =some y):comp (l.take (r+2))=if x=y then comp (l.take (r+1))else comp (l.take (r+1))++[y]:=by
 rw[xL h1,Lr,Yk l h];simp only[bN]
theorem aLH(l:List Int)(hl:l.length<1000000000000){K:KT}(hK:∀zs,K (.os 0 1 0 (comp l).length) [.arr 1 ((comp l).map encZ++zs)]):
  AC 312 [.os 0 1 0 l.length] [.arr 1 (l.map encZ)] K:=by
 refine aII rfl rfl ?_;rcases aD l.length 2 with h2|h2
 ·have e:comp l=l:=by
   rcases l with _|⟨x,_|⟨y,l⟩⟩
   ·rfl
   ·rfl
   ·simp only[aB]at h2;omega
  have:=hK [];rw[e,bG]at this;(repeat' ((conv=>whnf);first|refine zG ?_|apply zA|intro h|exact zT));all_goals conv=>whnf
  exact this
 ·(repeat' ((conv=>whnf);first|refine zG ?_|apply zA|intro h|exact zT));all_goals conv=>whnf
  refine gV Nat (fun k=>⟨1,[(0,.arr 1 (l.map encZ))],[(0,.os 0 1 0 l.length),(3,.v (.int .i64 k))]⟩) (fun k=>1<=k/\k<=l.length/\comp (l.take k)=l.take k) (fun k=>l.length-k) 1 ⟨aO _,by omega,?_⟩ ?_ ?_
  ·rcases l with _|⟨x,l⟩
   ·exact absurd h2 zx
   ·rfl
  ·exact leA
  intro k ⟨hk1,hk2,hk3⟩;rcases aD k l.length with hkl|hkl
  ·obtain⟨m,rfl⟩:∃m,k=m+1:=⟨k-1,by omega⟩
   obtain⟨x,hx⟩:∃x,l[m]? =some x:=⟨_,aE zo⟩
   obtain⟨y,hy⟩:∃y,l[m+1]? =some y:=⟨_,aE hkl⟩
   have hx0:l[0+m]? =some x:=by rw[bM];exact hx
   have hy0:l[0+(m+1)]? =some y:=by rw[bM];exact hy
   have hn:=Ls hx hy;(repeat' ((conv=>whnf);first|(with_reducible refine iJ hkl ?_)|(refine iB m zo zo ?_)|(with_reducible first|refine iH hx0 ?_|refine iH hy0 ?_)|(refine iF (m+1) l.length rfl rfl zo (aO _) ?_)|refine zG ?_|apply zA|intro h|exact zT));all_goals conv=>whnf
   ·have hxy:x=y:=h.symm;rw[aH hxy,hk3]at hn;refine gV Nat (fun q=>⟨1,[(0,.arr 1 ((comp (l.take (m+2+q))++l.drop (comp (l.take (m+2+q))).length).map encZ))],[(0,.os 0 1 0 l.length),(3,.v (.int .i64 (comp (l.take (m+2+q))).length)),(4,.os 0 1 (0+(m+1)) (l.length-(m+1))),(5,.v (.int .i64 ((q+1:Nat):Int)))]⟩) (fun q=>m+2+q<=l.length/\(comp (l.take (m+2+q))).length<m+2+q) (fun q=>l.length-q) 0 ⟨by omega,by rw[eN,hn,aV];omega⟩ ?_ ?_
    ·have e1:(l.take (m+1)).length=m+1:=by rw[aV];omega
     rw[eN,hn,e1,cU];exact leA
    intro q ⟨hq1,hq2⟩;obtain⟨C,hC⟩:∃C,C=comp (l.take (m+2+q)):=⟨_,rfl⟩
    rw[<-hC]at hq2⊢;rcases aD (m+2+q) l.length with hql|hql
    ·obtain⟨u,hu⟩:∃u,l[m+1+q]? =some u:=⟨_,aE zo⟩
     obtain⟨v,hv⟩:∃v,l[m+1+q+1]? =some v:=⟨_,aE zo⟩
     have hnx:=Ls hu hv;rw[show m+1+q+2=m+2+(q+1) by omega,show m+1+q+1=m+2+q by omega,<-hC]at hnx;have hget:∀i,C.length<=i->(C++l.drop C.length)[i]? =l[i]? :=fun i hi=>by
      rw[bF hi,cJ]
      congr 1;omega
     have hu0:(C++l.drop C.length)[0+(m+1)+q]? =some u:=by rw[bM,hget _ zo];exact hu
     have hv0:(C++l.drop C.length)[0+(m+1)+(q+1)]? =some v:=by rw[bM,hget _ zo];exact hv
     obtain⟨z,hz⟩:∃z,l[C.length]? =some z:=⟨_,aE zo⟩
     have hz0:(C++l.drop C.length)[0+C.length]? =some z:=by rw[bM,hget _ (aO _)];exact hz
     have hCn:C.length<l.length:=by omega
     have hdr:l.drop C.length=z::l.drop (C.length+1):=by
      rw[aE hCn]at hz;rw[<-bB hz,<-bA hCn]
     have hset:((C++l.drop C.length).map encZ).set (0+C.length) (encZ v)=((C++[v])++l.drop (C++[v]).length).map encZ:=by
      rw[bM,<-fS,dO _ _ (aO _),dH,hdr];simp
     (repeat' ((conv=>whnf);first|(refine iB q zo zo ?_)|(refine iB (q+1) zo zo ?_)|(with_reducible first|refine iJ hCn ?_|refine iH hu0 ?_|refine iH hv0 ?_|refine iH hz0 ?_)|refine zG ?_|apply zA|intro h|exact zT));all_goals conv=>whnf
     all_goals first
      |(rw[aF (fun e=>h e.symm)]at hnx
        refine⟨q+1,⟨by omega,by rw[hnx,aC];simp;omega⟩,by omega,?_⟩;rw[hnx,hset,show((C++[v]).length:Int)=(C.length:Int)+1 by simp,show((q+1+1:Nat):Int)=((q+1:Nat):Int)+1 by omega];exact leA)
      |(rw[aH (by first|exact h.symm|exact(Decidable.not_not.1 h).symm)]at hnx
        refine⟨q+1,⟨by omega,by rw[hnx];omega⟩,by omega,?_⟩;rw[hnx,show((q+1+1:Nat):Int)=((q+1:Nat):Int)+1 by omega];(exact leA))
    ·have hCl:C=comp l:=by rw[hC,aW hql]
     have hCn:C.length<=l.length:=by omega
     (repeat' ((conv=>whnf);first|(refine iF C.length l.length rfl rfl hCn (aO _) ?_)|(refine iF 0 C.length rfl rfl (aK _) hCn ?_)|refine zG ?_|apply zA|intro h|exact zT));all_goals conv=>whnf
     have e1:(List.map encZ (C++l.drop C.length)).take (0+C.length)=C.map encZ:=by
      rw[bM,aQ,gP zx]
     rw[e1,eN,eV,hCl];exact hK _
   ·refine⟨m+2,⟨by omega,by omega,?_⟩,by omega,?_⟩
    ·rw[hn,aF (fun e=>h e.symm),hk3,bE (i:=m+1),hy];rfl
    ·rw[show((m+2:Nat):Int)=((m+1:Nat):Int)+1 by omega];exact leA
  ·have e:comp l=l:=by rw[aW hkl]at hk3;exact hk3
   have:=hK [];rw[e,bG]at this;(repeat' ((conv=>whnf);first|refine zG ?_|apply zA|intro h|exact zT));all_goals conv=>whnf
   exact this
theorem tK(l:List Int):∀r,r<=l.length->∀z,z∈comp (l.take r)↔z∈l.take r:=by
 intro r
 induction r with
 |zero=>intro _ z;simp[comp]
 |succ r ih=>
  intro hr z;obtain⟨x,hx⟩:∃x,l[r]? =some x:=⟨_,aE zo⟩
  rw[xL hx,Lr,bE,hx];have h:=ih zo z;split
  ·rename_i hl;have:x∈comp (l.take r):=List.mem_of_getLast? hl;simp only[eH,aX,aU,h];constructor
   ·intro h;exact .inl h
   ·rintro(h|rfl)
    ·exact h
    ·exact(ih zo z).1 this
  ·simp[h]
theorem aAQ{l:List Int}{z:Int}:z∈comp l↔z∈l:=by
 have:=tK l l.length (aO _) z
 rwa[dF]at this
theorem Nz{l:List Int}(h:l.Pairwise (· <= ·)):∀r,r<=l.length->(comp (l.take r)).Pairwise (· < ·):=by
 intro r
 induction r with
 |zero=>intro _;simp[comp]
 |succ r ih=>
  intro hr;obtain⟨x,hx⟩:∃x,l[r]? =some x:=⟨_,aE zo⟩
  rw[xL hx,Lr];have h0:=ih zo;split
  ·exact h0
  ·rename_i hl;rw[dN];refine⟨h0,by simp,fun a ha b hb=>?_⟩;rw[aU]at hb;subst hb;have ha':=(tK l r zo a).1 ha;have hle:∀c,c∈l.take r->c<=b:=fun c hc=>by
    have h1:(l.take (r+1)).Pairwise (· <= ·):=h.sublist (List.take_sublist _ _);rw[bE,hx]at h1;exact(dN.1 h1).2.2 c hc b zx
   have hne:a≠b:=by
    rintro rfl
    obtain⟨i,g,hg⟩:∃i g,comp (l.take r)=i++[g]:=by
     rcases dI (comp (l.take r))with h|⟨i,g,h⟩
     ·rw[h]at ha;simp at ha
     ·exact⟨i,g,by rw[h,dJ]⟩
    rw[hg]at hl ha h0;simp only[cW,cO,dT,bN]at hl;have hgl:g<=a:=hle g ((tK l r zo g).1 (by rw[hg];simp));rcases aX.1 ha with ha|ha
    ·have:=(dN.1 h0).2.2 a ha g zx;omega
    ·rw[aU]at ha;exact hl ha.symm
   have:=hle a ha';omega
theorem aFi{l:List Int}(h:l.Pairwise (· <= ·)):(comp l).Pairwise (· < ·):=by
 have:=Nz h l.length (aO _)
 rwa[dF]at this
theorem I1{f:Nat}{l:List Bx}{k:Nat}{x:Bx}(h:l[k]? =some x):endsB f (l.take (k+1))=endsB f (l.take k)++[(x.get f).lo,(x.get f).hi+1]:=by
 simp[endsB,bE,h]
theorem rX(f:Nat)(l:List Bx):(endsB f l).length=2*l.length:=by
 induction l with
 |nil=>rfl
 |cons x l ih=>rw[endsB,cS,aC];rw[endsB]at ih;rw[ih,aB];simp;omega
theorem aLZ(a b:List Bx)(f:Nat)(hf:f<=4)(ha:a.length<1000000000)(hb:b.length<1000000000){K:KT}
  (hK:∀st:List Int,st.Pairwise (· < ·)->(∀z,z∈st↔z=0\/z=iX f+1\/z∈endsB f a\/z∈endsB f b)->K (.lst (st.map encZ)) []):
  AC 300 [.v (.int .i64 f),.lst [iN a,iN b]] [] K:=by
 refine aJh rfl rfl ?_;have hTop:∀{K:KT},K (.v (.int .u32 (iX f))) []->AC 231 [.v (.int .i64 f)] [] K:=fun h=>V6 _ (by rw[Sv hf];exact h);have ht:=kF f;(repeat' ((conv=>whnf);first|(with_reducible refine hTop ?_)|refine zG ?_|apply zA|intro h|exact zT));all_goals conv=>whnf
 refine Lp.times 3 ?_;(repeat' ((conv=>whnf);first|(refine kH rfl ?_)|(refine iC rfl ?_)|refine zG ?_|apply zA|intro h|exact zT));all_goals conv=>whnf
 refine gV Nat (fun k=>⟨1,[(0,.arr 1 (([0,iX f+1]++endsB f (a.take k)).map encZ))],[(0,.v (.int .i64 f)),(5,.os 0 1 0 ([0,iX f+1]++endsB f (a.take k)).length),(15,.lst [iN a,iN b]),(16,.v (.int .i64 (([iN a,iN b].length:Nat):Int))),(17,.v (.int .i64 (0))),(21,iN a),(22,.v (.int .i64 ((a.map iV).length:Nat))),(23,.v (.int .i64 k))]⟩) (fun k=>k<=a.length) (fun k=>a.length-k) 0 (aK _) ?_ ?_
 ·rw[cA,show endsB f []=[]from rfl,bG];exact leA
 intro k hk;rcases aD k a.length with hkl|hkl
 ·obtain⟨x,hx⟩:=gex hkl;have hs:=I1 (f:=f) hx;have hlen:([0,iX f+1]++endsB f (a.take k)).length<=4000000010:=by
   have h1:=rX f (a.take k);have h2:=rX f a;rw[aV]at h1;simp only[aC,aB,aI];omega
  have hr:((x.get f).hi<=4294967295/\0<=(x.get f).hi)/\(x.get f).lo<=4294967295/\0<=(x.get f).lo:=⟨⟨(x.get f).h1,(x.get f).h0⟩,(x.get f).l1,(x.get f).l0⟩
  obtain⟨⟨hr1,hr2⟩,hr3,hr4⟩:=hr;have happ:(([0,iX f+1]++endsB f (a.take (k+1))).map encZ)=(([0,iX f+1]++endsB f (a.take k)).map encZ)++[encZ (x.get f).lo,encZ ((x.get f).hi+1)]:=by
   rw[hs,<-cM,aQ];rfl
  have hll:([0,iX f+1]++endsB f (a.take (k+1))).length=([0,iX f+1]++endsB f (a.take k)).length+2:=by
   rw[hs,<-cM,aC];rfl
  generalize hA:([0,iX f+1]++endsB f (a.take k))=A at*;generalize hB:([0,iX f+1]++endsB f (a.take (k+1)))=B at*;rcases f with _|_|_|_|_|f
  case succ.succ.succ.succ.succ=>omega
  all_goals
   simp only[Bx.get]at happ hr1 hr2 hr3 hr4;(repeat' ((conv=>whnf);first|(with_reducible first|refine iI hkl ?_|refine iH hx ?_)|(refine kH zd ?_)|refine zG ?_|apply zA|intro h|exact zT));all_goals conv=>whnf
   refine⟨k+1,by omega,by omega,?_⟩;rw[hB,happ,hll];exact leA
 ·rw[aW hkl];(repeat' ((conv=>whnf);first|(refine kH rfl ?_)|(refine iC rfl ?_)|refine zG ?_|apply zA|intro h|exact zT));all_goals conv=>whnf
  refine gV Nat (fun k=>⟨1,[(0,.arr 1 ((([0,iX f+1]++endsB f a)++endsB f (b.take k)).map encZ))],[(0,.v (.int .i64 f)),(5,.os 0 1 0 (([0,iX f+1]++endsB f a)++endsB f (b.take k)).length),(15,.lst [iN a,iN b]),(16,.v (.int .i64 (([iN a,iN b].length:Nat):Int))),(17,.v (.int .i64 (0+1))),(21,iN b),(22,.v (.int .i64 ((b.map iV).length:Nat))),(23,.v (.int .i64 k))]⟩) (fun k=>k<=b.length) (fun k=>b.length-k) 0 (aK _) ?_ ?_
  ·rw[cA,show endsB f []=[]from rfl,bG];exact leA
  intro k hk;rcases aD k b.length with hkl|hkl
  ·obtain⟨x,hx⟩:=gex hkl;have hs:=I1 (f:=f) hx;have hlen:(([0,iX f+1]++endsB f a)++endsB f (b.take k)).length<=4000000010:=by
    have h1:=rX f (b.take k);have h2:=rX f a;rw[aV]at h1;simp only[aC,aB,aI];omega
   have hr:((x.get f).hi<=4294967295/\0<=(x.get f).hi)/\(x.get f).lo<=4294967295/\0<=(x.get f).lo:=⟨⟨(x.get f).h1,(x.get f).h0⟩,(x.get f).l1,(x.get f).l0⟩
   obtain⟨⟨hr1,hr2⟩,hr3,hr4⟩:=hr;have happ:((([0,iX f+1]++endsB f a)++endsB f (b.take (k+1))).map encZ)=((([0,iX f+1]++endsB f a)++endsB f (b.take k)).map encZ)++[encZ (x.get f).lo,encZ ((x.get f).hi+1)]:=by
    rw[hs,<-cM,aQ];rfl
   have hll:(([0,iX f+1]++endsB f a)++endsB f (b.take (k+1))).length=(([0,iX f+1]++endsB f a)++endsB f (b.take k)).length+2:=by
    rw[hs,<-cM,aC];rfl
   generalize hA:(([0,iX f+1]++endsB f a)++endsB f (b.take k))=A at*;generalize hB:(([0,iX f+1]++endsB f a)++endsB f (b.take (k+1)))=B at*;rcases f with _|_|_|_|_|f
   case succ.succ.succ.succ.succ=>omega
   all_goals
    simp only[Bx.get]at happ hr1 hr2 hr3 hr4;(repeat' ((conv=>whnf);first|(with_reducible first|refine iI hkl ?_|refine iH hx ?_)|(refine kH zd ?_)|refine zG ?_|apply zA|intro h|exact zT));all_goals conv=>whnf
    refine⟨k+1,by omega,by omega,?_⟩;rw[hB,happ,hll];exact leA
  ·rw[aW hkl];have hl:([0,iX f+1]++endsB f a++endsB f b).length<1000000000000:=by
    have h1:=rX f a;have h2:=rX f b;simp only[aC,aB,aI];omega
   (repeat' ((conv=>whnf);first|(with_reducible refine aLP _ hl fun l' hp hs=>?_)|refine zG ?_|apply zA|intro h|exact zT));all_goals conv=>whnf
   have hll:([0,iX f+1]++endsB f a++endsB f b).length=l'.length:=hp.length_eq.symm;rw[hll]at hl⊢;(repeat' ((conv=>whnf);first|(with_reducible refine aLH l' hl fun zs=>?_)|refine zG ?_|apply zA|intro h|exact zT));all_goals conv=>whnf
   refine iE (ys:=(comp l').map encZ) zx (by rw[bP,gP zx]) ?_;refine hK (comp l') (aFi hs) fun z=>?_;rw[aAQ,hp.mem_iff];simp only[aX,aZ,eB,or_false,or_assoc]
end Go.Proofs.YtgicddadddhonaaGreatDoor
