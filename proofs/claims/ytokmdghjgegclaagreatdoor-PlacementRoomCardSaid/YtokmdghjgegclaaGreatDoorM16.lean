/- The generator: headers near a box. -/
import Derived.Test.YtokmdghjgegclaaGreatDoorM15
set_option linter.unusedVariables false
set_option linter.unusedSimpArgs false
set_option maxRecDepth 100000
set_option maxHeartbeats 4000000
namespace Go.Proofs.YtokmdghjgegclaaGreatDoor
open Go Go.Vm
noncomputable abbrev celX(b:Bx):List AV:=[.v (.int .u32 b.r0.lo),.v (.int .u32 b.r0.hi),.v (.int .u32 b.r1.lo),.v (.int .u32 b.r1.hi),.v (.int .u32 b.r2.lo),.v (.int .u32 b.r2.hi),.v (.int .u32 b.r3.lo),.v (.int .u32 b.r3.hi),.v (.int .u32 b.r4.lo),.v (.int .u32 b.r4.hi)]
theorem ix_map_any{α:Type}{f:α->AV}{l:List α}{i:Nat}{K:AV->Prop}(h:i<l.length)(hk:∀r,r∈l->K (f r)):Ix (l.map f) i K:=ix_map (List.getElem?_eq_getElem h) (hk _ (List.getElem_mem h))
theorem cnPick(raw:List Int)(pos:Nat)(l:List Df)(hl:l.length<=1000)(hp:pos<=raw.length)(hr:raw.length<=9223372036854775807){K:KT}
  (hK:∀(s:ByteArray) (pos':Nat),pos'<=raw.length->K (.v (.string s)) [tapeO raw pos']):ACall Tryz.prog 129 [.op 0 0,.lst (l.map encDf)] [tapeO raw pos] K:=by
 refine ofnPick rfl rfl ?_
 (repeat' ((conv=>whnf);first|(with_reducible first|refine nNext raw _ _ (by simp only[List.length_map];omega) (by assumption) hr fun m1 p1 hm1 hp1=>?_|refine in_map (by simp only[List.length_map]at*;omega) ?_|refine ix_map_any (by simp only[List.length_map]at*;omega) fun r hr=>?_)|refine zG ?_|apply zA|(apply zI;intro h)|exact zT));(all_goals conv=>whnf)
 all_goals exact hK _ _ (by assumption)
theorem cnMin(raw:List Int)(pos:Nat)(hp:pos<=raw.length)(hr:raw.length<=9223372036854775807){K:KT}
  (hK:∀(m:Int) (pos':Nat),pos'<=raw.length->K (.v (.int .i64 m)) [tapeO raw pos']):ACall Tryz.prog 37 [.op 0 0] [tapeO raw pos] K:=by
 refine ofnMin rfl rfl ?_
 (repeat' ((conv=>whnf);first|(with_reducible first|refine nNext raw _ _ (by omega) (by assumption) hr fun m1 p1 hm1 hp1=>?_|refine in_nat (by omega) ?_|refine ix_ints [0,479,480,481,1019,1020,1439,700] 8 rfl rfl (by omega) fun c hc=>?_|refine wr_any fun r=>?_)|refine zG ?_|apply zA|(apply zI;intro h)|exact zT));(all_goals conv=>whnf)
 all_goals exact hK _ _ (by assumption)
theorem cnRange(raw:List Int)(pos:Nat)(top:Int)(t0:0<=top)(t1:top<=4294967295)(hp:pos<=raw.length)(hr:raw.length<=9223372036854775807){K:KT}
  (hK:∀(r:Rg) (pos':Nat),pos'<=raw.length->K (encR r) [tapeO raw pos']):ACall Tryz.prog 80 [.op 0 0,.v (.int .u32 top)] [tapeO raw pos] K:=by
 refine ofnRange rfl rfl ?_
 (repeat' ((conv=>whnf);first|(with_reducible refine cvNum raw _ top t0 t1 (by assumption) hr fun a p2 a0 a1 hp2=>?_)|refine zG ?_|apply zA|(apply zI;intro h)|exact zT));(all_goals conv=>whnf)
 all_goals exact hK ⟨_,_,by omega,by omega,by omega,by omega⟩ _ (by assumption)
theorem cnAdrs(raw:List Int)(pos:Nat)(hp:pos<=raw.length)(hr:raw.length<=9223372036854775807){K:KT}
  (hK:∀(r:Rg) (pos':Nat),pos'<=raw.length->K (encR r) [tapeO raw pos']):ACall Tryz.prog 89 [.op 0 0] [tapeO raw pos] K:=by
 refine ofnAdrs rfl rfl ?_
 (repeat' ((conv=>whnf);first|(with_reducible first|refine nNext raw _ _ (by omega) (by assumption) hr fun m1 p1 hm1 hp1=>?_|refine cnSub _ (by omega) ?_|refine crOf _ ?_|refine cnAddr raw _ (by assumption) hr fun a p2 a0 a1 hp2=>?_)|refine zG ?_|apply zA|(apply zI;intro h)|exact zT));(all_goals conv=>whnf)
 all_goals first
  |exact hK _ _ (by assumption)
  |exact hK ⟨_,_,by omega,by omega,by omega,by omega⟩ _ (by assumption)
  |exact hK ⟨_,_,by decide,by decide,by decide,by decide⟩ _ (by assumption)
  |trace_state
theorem ix_proU{i:Nat}{K:AV->Prop}(hi:i<6)(hk:∀y:Int,0<=y->y<=4294967295->K (.v (.int .u32 y))):Ix [.v (.int .u32 6),.v (.int .u32 17),.v (.int .u32 1),.v (.int .u32 0),.v (.int .u32 7),.v (.int .u32 255)] i K:=by
 match i,hi with
 |0,_=>exact Ix.intro rfl (hk 6 (by decide) (by decide))
 |1,_=>exact Ix.intro rfl (hk 17 (by decide) (by decide))
 |2,_=>exact Ix.intro rfl (hk 1 (by decide) (by decide))
 |3,_=>exact Ix.intro rfl (hk 0 (by decide) (by decide))
 |4,_=>exact Ix.intro rfl (hk 7 (by decide) (by decide))
 |5,_=>exact Ix.intro rfl (hk 255 (by decide) (by decide))
theorem nN5(raw:List Int)(pos:Nat)(hp:pos<=raw.length)(hr:raw.length<=9223372036854775807){K:KT}
  (h0:∀pos':Nat,pos'<=raw.length->K (.v (.int .i64 0)) [tapeO raw pos'])(h1:∀pos':Nat,pos'<=raw.length->K (.v (.int .i64 1)) [tapeO raw pos'])(h2:∀pos':Nat,pos'<=raw.length->K (.v (.int .i64 2)) [tapeO raw pos'])
  (h3:∀pos':Nat,pos'<=raw.length->K (.v (.int .i64 3)) [tapeO raw pos'])(h4:∀pos':Nat,pos'<=raw.length->K (.v (.int .i64 4)) [tapeO raw pos']):ACall Tryz.prog 13 [.op 0 0,.v (.int .i64 5)] [tapeO raw pos] K:=
 nNext raw pos 5 (by decide) hp hr fun m p' hm hp'=>by
  obtain rfl|rfl|rfl|rfl|rfl:m=0\/m=1\/m=2\/m=3\/m=4:=by omega
  ·exact h0 _ hp'
  ·exact h1 _ hp'
  ·exact h2 _ hp'
  ·exact h3 _ hp'
  ·exact h4 _ hp'
theorem cnBox(raw:List Int)(pos:Nat)(hp:pos<=raw.length)(hr:raw.length<=9223372036854775807){K:KT}
  (hK:∀(b:Bx) (pos':Nat),pos'<=raw.length->K (encX b) [tapeO raw pos']):ACall Tryz.prog 41 [.op 0 0] [tapeO raw pos] K:=by
 refine ofnBox rfl rfl ?_
 (repeat' ((conv=>whnf);first|(with_reducible first|refine nNext raw _ _ (by omega) (by assumption) hr fun m1 p1 hm1 hp1=>?_|refine cr3Full ?_)|refine zG ?_|apply zA|(apply zI;intro h)|exact zT));(all_goals conv=>whnf)
 refine Lp.intro (Nat×Nat×Bx) (fun g=>⟨3,[(0,tapeO raw g.1),(1,.box [.v (.int .u32 0),.v (.int .u32 0),.v (.int .u32 0),.v (.int .u32 0),.v (.int .u32 0),.v (.int .u32 0),.v (.int .u32 0),.v (.int .u32 0),.v (.int .u32 0),.v (.int .u32 0)]),(2,.box (celX g.2.2))],[(0,.op 0 0),(2,.op 1 0),(3,.op 2 0),(4,.v (.int .i64 g.2.1))]⟩)
  (fun g=>g.1<=raw.length/\g.2.1<=10) (fun g=>g.2.1) (p1,m1+1,fullB) ⟨by assumption,by simp only;omega⟩ ?_ ?_
 ·rw[show((p1,m1+1,fullB).2.1:Int)=1+(m1:Int)from by simp only;omega]
  (exact leA)
 rintro⟨p2,i,b⟩ ⟨hp2,hi⟩
 simp only at hp2 hi⊢
 rcases Nat.lt_or_ge 0 i with hi0|hi0
 ·obtain⟨i',rfl⟩:∃i',i=i'+1:=⟨i-1,by omega⟩
  have hi1:((i'+1:Nat):Int)-1=(i':Int):=by omega
  (repeat' ((conv=>whnf);first|(with_reducible first|refine wr_i64 hi1 (by omega) (by omega) ?_|refine nNext raw _ _ (by omega) (by assumption) hr fun m2 p3 hm2 hp3=>?_|refine in_nat (by omega) ?_)|(refine in_c (by decide) ?_)|(with_reducible first|refine cnAdrs raw _ (by assumption) hr fun r p4 hp4=>?_|refine cnRange raw _ 65535 (by decide) (by decide) (by assumption) hr fun r p4 hp4=>?_)|(refine ix_proU (by omega) fun y y0 y1=>?_)|refine zG ?_|apply zA|(apply zI;intro h)|exact zT));(all_goals conv=>whnf)
  ·refine⟨(p4,i',⟨r,b.r1,b.r2,b.r3,b.r4⟩),⟨hp4,by simp only;omega⟩,by simp only;omega,?_⟩
   (exact leA)
  ·refine⟨(p4,i',⟨b.r0,r,b.r2,b.r3,b.r4⟩),⟨hp4,by simp only;omega⟩,by simp only;omega,?_⟩
   (exact leA)
  ·refine⟨(p3,i',⟨b.r0,b.r1,⟨y,y,y0,y1,y0,y1⟩,b.r3,b.r4⟩),⟨hp3,by simp only;omega⟩,by simp only;omega,?_⟩
   (exact leA)
  ·refine⟨(p4,i',⟨b.r0,b.r1,b.r2,r,b.r4⟩),⟨hp4,by simp only;omega⟩,by simp only;omega,?_⟩
   (exact leA)
  ·refine⟨(p4,i',⟨b.r0,b.r1,b.r2,b.r3,r⟩),⟨hp4,by simp only;omega⟩,by simp only;omega,?_⟩
   (exact leA)
 ·obtain rfl:i=0:=by omega
  (repeat' ((conv=>whnf);first|refine zG ?_|apply zA|(apply zI;intro h)|exact zT));(all_goals conv=>whnf)
  exact hK b _ hp2
theorem cnSpB(raw:List Int)(pos:Nat)(b:Bx)(hp:pos<=raw.length)(hr:raw.length<=9223372036854775807){K:KT}
  (hK:∀(b:Bx) (pos':Nat),pos'<=raw.length->K (encX b) [tapeO raw pos']):ACall Tryz.prog 87 [.op 0 0,encX b] [tapeO raw pos] K:=by
 have b0:=And.intro (Rg.l0 b.r0) (Rg.l1 b.r0)
 have c0:=And.intro (Rg.h0 b.r0) (Rg.h1 b.r0)
 have b1:=And.intro (Rg.l0 b.r1) (Rg.l1 b.r1)
 have c1:=And.intro (Rg.h0 b.r1) (Rg.h1 b.r1)
 have b2:=And.intro (Rg.l0 b.r2) (Rg.l1 b.r2)
 have c2:=And.intro (Rg.h0 b.r2) (Rg.h1 b.r2)
 have b3:=And.intro (Rg.l0 b.r3) (Rg.l1 b.r3)
 have c3:=And.intro (Rg.h0 b.r3) (Rg.h1 b.r3)
 have b4:=And.intro (Rg.l0 b.r4) (Rg.l1 b.r4)
 have c4:=And.intro (Rg.h0 b.r4) (Rg.h1 b.r4)
 have hq:∀(a0 a1 a2 a3 a4 a5 a6 a7 a8 a9:Int) (p':Nat),(0<=a0/\a0<=4294967295/\0<=a1/\a1<=4294967295/\0<=a2/\a2<=4294967295/\0<=a3/\a3<=4294967295/\0<=a4/\a4<=4294967295/\0<=a5/\a5<=4294967295/\0<=a6/\a6<=4294967295/\0<=a7/\a7<=4294967295/\0<=a8/\a8<=4294967295/\0<=a9/\a9<=4294967295)->p'<=raw.length->
   K (.agg [.v (.int .u32 a0),.v (.int .u32 a1),.v (.int .u32 a2),.v (.int .u32 a3),.v (.int .u32 a4),.v (.int .u32 a5),.v (.int .u32 a6),.v (.int .u32 a7),.v (.int .u32 a8),.v (.int .u32 a9)]) [tapeO raw p']:=fun a0 a1 a2 a3 a4 a5 a6 a7 a8 a9 p' h hp'=>by
  obtain⟨h0,h1,h2,h3,h4,h5,h6,h7,h8,h9,h10,h11,h12,h13,h14,h15,h16,h17,h18,h19⟩:=h
  exact hK ⟨⟨a0,a1,h0,h1,h2,h3⟩,⟨a2,a3,h4,h5,h6,h7⟩,⟨a4,a5,h8,h9,h10,h11⟩,⟨a6,a7,h12,h13,h14,h15⟩,⟨a8,a9,h16,h17,h18,h19⟩⟩ p' hp'
 refine ofnSpB rfl rfl ?_
 (repeat' ((conv=>whnf);first|(refine nN5 raw _ (by assumption) hr (fun p1 hp1=>?_) (fun p1 hp1=>?_) (fun p1 hp1=>?_) (fun p1 hp1=>?_) fun p1 hp1=>?_)|(with_reducible refine nNext raw _ _ (by omega) (by assumption) hr fun m2 p3 hm2 hp3=>?_)|(refine in_c (by decide) ?_)|refine zG ?_|apply zA|(apply zI;intro h)|exact zT));(all_goals conv=>whnf)
 all_goals
  refine hq _ _ _ _ _ _ _ _ _ _ _ ?_ (by assumption)
  omega
theorem cnBoxes(raw:List Int)(pos:Nat)(n:Nat)(hn:n<=100)(hp:pos<=raw.length)(hr:raw.length<=9223372036854775807){K:KT}
  (hK:∀(l:List Bx) (pos':Nat),l.length<=n->pos'<=raw.length->K (encXs l) [tapeO raw pos']):ACall Tryz.prog 40 [.op 0 0,.v (.int .i64 n),.sb false] [tapeO raw pos] K:=by
 refine ofnBoxes rfl rfl ?_
 (repeat' ((conv=>whnf);first|(with_reducible refine nNext raw _ _ (by omega) (by assumption) hr fun m1 p1 hm1 hp1=>?_)|refine zG ?_|apply zA|(apply zI;intro h)|exact zT));(all_goals conv=>whnf)
 refine Lp.intro (Nat×Nat×List Bx) (fun g=>⟨2,[(0,tapeO raw g.1),(1,.arr 10 (g.2.2.map encX))],[(0,.op 0 0),(2,.sb false),(7,.os 1 10 0 g.2.2.length),(8,.v (.int .i64 g.2.1))]⟩)
  (fun g=>g.1<=raw.length/\g.2.1+g.2.2.length<=n) (fun g=>g.2.1) (p1,m1,[]) ⟨by assumption,by simp only[List.length_nil];omega⟩ ?_ ?_
 ·(exact leA)
 rintro⟨p2,i,l⟩ ⟨hp2,hi⟩
 simp only at hp2 hi⊢
 rcases Nat.lt_or_ge 0 i with hi0|hi0
 ·obtain⟨i',rfl⟩:∃i',i=i'+1:=⟨i-1,by omega⟩
  have hi1:((i'+1:Nat):Int)-1=(i':Int):=by omega
  (repeat' ((conv=>whnf);first|(with_reducible first|refine wr_i64 hi1 (by omega) (by omega) ?_|refine cnBox raw _ (by assumption) hr fun b p3 hp3=>?_)|refine zG ?_|apply zA|(apply zI;intro h)|exact zT));(all_goals conv=>whnf)
  refine⟨(p3,i',l++[b]),⟨hp3,by simp only[List.length_append,List.length_cons,List.length_nil];omega⟩,by simp only;omega,?_⟩
  simp only[List.map_append,List.length_append,List.map_cons,List.map_nil,List.length_cons,List.length_nil]
  (exact leA)
 ·obtain rfl:i=0:=by omega
  (repeat' ((conv=>whnf);first|(with_reducible refine sl_full (List.length_map ..) ?_)|refine zG ?_|apply zA|(apply zI;intro h)|exact zT));(all_goals conv=>whnf)
  exact hK l _ (by omega) hp2
noncomputable abbrev encSt(s:ByteArray):AV:=.v (.string s)
theorem ix_baA{s:ByteArray}{j:Nat}{K:UInt8->Prop}(h:j<s.size)(hk:∀b,K b):∃b,s[j]? =some b/\K b:=ix_ba h fun b _=>hk b
theorem cqNum:∀(N n:Nat),n<=N->n<100000->∀{K:KT},(∀s:ByteArray,s.size<=n+1->K (.v (.string s)) [])->ACall Tryz.prog 223 [.v (.int .i64 n)] [] K:=by
 intro N
 induction N with
 |zero=>
  intro n hN hn K hK
  refine ofq1Num rfl rfl ?_
  (repeat' ((conv=>whnf);first|(with_reducible refine wr_any fun r=>?_)|(refine sl_full (by rfl) ?_)|refine zG ?_|apply zA|(apply zI;intro h)|exact zT));(all_goals conv=>whnf)
  all_goals first
   |exact hK _ (by rw[strOfNums_size];simp)
   |(exfalso;omega)
 |succ N ih=>
  intro n hN hn K hK
  have hq:(n:Int).tdiv 10=((n/10:Nat):Int):=by rw[Int.tdiv_eq_ediv_of_nonneg (by omega)];omega
  refine ofq1Num rfl rfl ?_
  by_cases h10:n<10
  ·(repeat' ((conv=>whnf);first|(with_reducible refine wr_any fun r=>?_)|(refine sl_full (by rfl) ?_)|refine zG ?_|apply zA|(apply zI;intro h)|exact zT));(all_goals conv=>whnf)
   all_goals first
    |exact hK _ (by rw[strOfNums_size];simp)
    |(exfalso;omega)
  ·have hrec:∀{K:KT},(∀s:ByteArray,s.size<=n/10+1->K (.v (.string s)) [])->ACall Tryz.prog 223 [.v (.int .i64 ((n/10:Nat):Int))] [] K:=fun h=>ih (n/10) (by omega) (by omega) h
   (repeat' ((conv=>whnf);first|(with_reducible first|refine Ob.intro (by decide) ?_|refine wr_i64 hq (by omega) (by omega) ?_|refine hrec fun s hs=>?_|refine wr_any fun r=>?_)|(refine sl_full (by rfl) ?_)|(with_reducible refine Ob.intro (by rw[strOfNums_size];simp only[List.length_cons,List.length_nil];omega) ?_)|refine zG ?_|apply zA|(apply zI;intro h)|exact zT));(all_goals conv=>whnf)
   all_goals first
    |(exfalso;omega)
    |exact hK _ (by rw[ByteArray.size_append,strOfNums_size];simp only[List.length_cons,List.length_nil];omega)
    |trace_state
theorem cqPad(n:Nat)(hn:n<100000){K:KT}(hK:∀s:ByteArray,s.size<=n+2->K (.v (.string s)) []):ACall Tryz.prog 217 [.v (.int .i64 n)] [] K:=by
 have z1:(⟨#[48]⟩:ByteArray).size=1:=rfl
 refine ofq9Pad rfl rfl ?_
 (repeat' ((conv=>whnf);first|(with_reducible first|refine cqNum n n (Nat.le_refl _) hn fun s hs=>?_|refine Ob.intro (by omega) ?_)|refine zG ?_|apply zA|(apply zI;intro h)|exact zT));(all_goals conv=>whnf)
 all_goals first
  |exact hK _ (by omega)
  |exact hK _ (by rw[ByteArray.size_append];omega)
  |trace_state
theorem cqText(n:Nat)(hn:n<100000){K:KT}(hK:∀s:ByteArray,s.size<=2*n+10->K (.v (.string s)) []):ACall Tryz.prog 203 [.v (.int .i64 n)] [] K:=by
 have hq:(n:Int).tdiv 60=((n/60:Nat):Int):=by rw[Int.tdiv_eq_ediv_of_nonneg (by omega)];omega
 have hm:(n:Int).tmod 60=((n%60:Nat):Int):=by rw[Int.tmod_eq_emod_of_nonneg (by omega)];omega
 have z1:(⟨#[58]⟩:ByteArray).size=1:=rfl
 have hP:∀{K:KT},(∀s:ByteArray,s.size<=n%60+2->K (.v (.string s)) [])->ACall Tryz.prog 217 [.v (.int .i64 ((n:Int).tmod 60))] [] K:=fun h=>by rw[hm];exact cqPad (n%60) (by omega) h
 refine ofq9Text rfl rfl ?_
 (repeat' ((conv=>whnf);first|(with_reducible first|refine Ob.intro (by decide) ?_|refine wr_i64 hq (by omega) (by omega) ?_|refine wr_i64 hm (by omega) (by omega) ?_|refine cqPad (n/60) (by omega) fun s hs=>?_|refine hP fun u hu=>?_|refine Ob.intro (by(try simp only[ByteArray.size_append]);omega) ?_)|refine zG ?_|apply zA|(apply zI;intro h)|exact zT));(all_goals conv=>whnf)
 all_goals first
  |exact hK _ (by simp only[ByteArray.size_append];omega)
  |trace_state
def dayL:List ByteArray:=[⟨#[109,111,110]⟩,⟨#[116,117,101]⟩,⟨#[119,101,100]⟩,⟨#[116,104,117]⟩,⟨#[102,114,105]⟩,⟨#[115,97,116]⟩,⟨#[115,117,110]⟩]
theorem cqDays{K:KT}(hK:K (.lst (dayL.map encSt)) []):ACall Tryz.prog 202 [] [] K:=by
 refine ofq9Days rfl rfl ?_
 (repeat' ((conv=>whnf);first|(refine sl_full (by rfl) ?_)|refine zG ?_|apply zA|(apply zI;intro h)|exact zT));(all_goals conv=>whnf)
 exact hK
theorem cqDay(s:ByteArray){K:KT}(hK:∀r:Int,-1<=r->r<=6->K (.v (.int .i64 r)) []):ACall Tryz.prog 208 [.v (.string s)] [] K:=by
 refine ofq9Day rfl rfl ?_
 (repeat' ((conv=>whnf);first|(with_reducible refine cqDays ?_)|refine zG ?_|apply zA|(apply zI;intro h)|exact zT));(all_goals conv=>whnf)
 refine Lp.intro Nat (fun i=>⟨0,[],[(0,.v (.string s)),(3,.lst (dayL.map encSt)),(4,.v (.int .i64 i))]⟩) (fun i=>i<=7) (fun i=>7-i) 0 (Nat.zero_le _) ?_ ?_
 ·(exact leA)
 intro i hi
 have h7:dayL.length=7:=rfl
 rcases Nat.lt_or_ge i 7 with hl|hl
 ·(repeat' ((conv=>whnf);first|(with_reducible first|refine in_map (by omega) ?_|refine ix_map_any (by omega) fun c hc=>?_)|refine zG ?_|apply zA|(apply zI;intro h)|exact zT));(all_goals conv=>whnf)
  all_goals first
   |exact hK _ (by omega) (by omega)
   |(refine⟨i+1,by omega,by omega,?_⟩
     rw[Int.natCast_add,Int.natCast_one]
     (exact leA)
     done)
   |(exfalso;simp only[List.length_map,h7]at*;omega)
   |trace_state
 ·(repeat' ((conv=>whnf);first|refine zG ?_|apply zA|(apply zI;intro h)|exact zT));(all_goals conv=>whnf)
  all_goals first
   |exact hK _ (by omega) (by omega)
   |(exfalso;simp only[List.length_map,h7]at*;omega)
theorem cqTwo(s:ByteArray){K:KT}(hK:∀r:Int,K (.v (.int .i64 r)) []):ACall Tryz.prog 219 [.v (.string s)] [] K:=by
 refine ofq9Two rfl rfl ?_
 (repeat' ((conv=>whnf);first|(refine In.intro 0 rfl (by omega) ?_)|(refine In.intro 1 rfl (by omega) ?_)|(with_reducible first|refine ix_baA (by omega) fun b=>?_|refine wr_any fun r=>?_)|refine zG ?_|apply zA|(apply zI;intro h)|exact zT));(all_goals conv=>whnf)
 all_goals first
  |exact hK _
  |trace_state
theorem cqClock(s:ByteArray){K:KT}(hK:∀r:Int,-1<=r->r<=1440->K (.v (.int .i64 r)) []):ACall Tryz.prog 209 [.v (.string s)] [] K:=by
 refine ofq9Clock rfl rfl ?_
 (repeat' ((conv=>whnf);first|(refine In.intro 2 rfl (by omega) ?_)|(with_reducible first|refine ix_baA (by omega) fun b=>?_|refine Sb.intro 0 2 rfl rfl (by omega) (by omega) ?_|refine Sb.intro 3 s.size rfl rfl (by omega) (by omega) ?_|refine cqTwo _ fun r=>?_|refine wr_i64 rfl (by omega) (by omega) ?_)|refine zG ?_|apply zA|(apply zI;intro h)|exact zT));(all_goals conv=>whnf)
 all_goals first
  |exact hK _ (by omega) (by omega)
  |trace_state
theorem cqParts(s:ByteArray)(c:Int)(hs:s.size<=1000){K:KT}(hK:∀l:List ByteArray,l≠[]->l.length<=2000->K (.lst (l.map encSt)) []):ACall Tryz.prog 207 [.v (.string s),.v (.int .u8 c)] [] K:=by
 refine ofq1Parts rfl rfl ?_
 (repeat' ((conv=>whnf);first|refine zG ?_|apply zA|(apply zI;intro h)|exact zT));(all_goals conv=>whnf)
 refine Lp.intro (List ByteArray×Nat×Nat) (fun g=>⟨1,[(0,.arr 1 (g.1.map encSt))],[(0,.v (.string s)),(1,.v (.int .u8 c)),(5,.os 0 1 0 g.1.length),(6,.v (.int .i64 g.2.1)),(7,.v (.int .i64 g.2.2))]⟩)
  (fun g=>g.2.2<=s.size+1/\g.2.1<=g.2.2/\g.1.length<=g.2.2/\(g.2.2=s.size+1->g.1≠[])) (fun g=>s.size+1-g.2.2) ([],0,0) ⟨by simp only;omega,Nat.le_refl _,Nat.le_refl _,fun h=>by simp only at h;omega⟩ ?_ ?_
 ·(exact leA)
 rintro⟨l,a,i⟩ ⟨h1,h2,h3,h4⟩
 simp only at h1 h2 h3 h4⊢
 rcases Nat.lt_or_ge i (s.size+1)with hl|hl
 ·(repeat' ((conv=>whnf);first|(with_reducible first|refine in_nat (by omega) ?_|refine ix_baA (by omega) fun b=>?_|refine Sb.intro a i rfl rfl (by omega) (by omega) ?_)|refine zG ?_|apply zA|(apply zI;intro h)|exact zT));(all_goals conv=>whnf)
  all_goals first
   |(refine⟨(l,a,i+1),⟨by simp only;omega,by simp only;omega,by simp only;omega,fun h=>by simp only at h;omega⟩,by simp only;omega,?_⟩
     rw[show(((l,a,i+1):List ByteArray×Nat×Nat).2.2:Int)=(i:Int)+1 from by simp only;omega]
     (exact leA)
     done)
   |(refine⟨(l++[s.extract a i],i+1,i+1),⟨by simp only;omega,by simp only;omega,by simp only[List.length_append,List.length_cons,List.length_nil];omega,fun h=>by simp⟩,by simp only;omega,?_⟩
     simp only[List.map_append,List.length_append,List.map_cons,List.map_nil,List.length_cons,List.length_nil,Int.natCast_add,Int.natCast_one]
     (exact leA)
     done)
   |(exfalso;omega)
   |trace_state
 ·(repeat' ((conv=>whnf);first|(with_reducible refine sl_full (List.length_map ..) ?_)|refine zG ?_|apply zA|(apply zI;intro h)|exact zT));(all_goals conv=>whnf)
  exact hK l (h4 (by omega)) (by omega)
theorem cqSpan(s:ByteArray)(hs:s.size<=1000){K:KT}(hK:∀a b:Int,-1<=a->a<=6-> -1<=b->b<=6->K (.tup [.v (.int .i64 a),.v (.int .i64 b)]) []):ACall Tryz.prog 176 [.v (.string s)] [] K:=by
 refine ofq9Span rfl rfl ?_
 (repeat' ((conv=>whnf);first|(with_reducible refine cqParts s _ hs fun l hl hn=>?_)|refine zG ?_|apply zA|(apply zI;intro h)|exact zT));(all_goals conv=>whnf)
 all_goals
  have hpos:=List.length_pos_iff.2 hl
  have hm:((l.length:Nat):Int)-1=((l.length-1:Nat):Int):=by omega
 (repeat' ((conv=>whnf);first|(refine In.intro 0 rfl (by rw[List.length_map];omega) ?_)|(with_reducible first|refine wr_i64 (r:=((l.length-1:Nat):Int)) (by rw[List.length_map];omega) (by omega) (by omega) ?_|refine in_map (by omega) ?_|refine ix_map_any (by omega) fun c hc=>?_|refine cqDay _ fun r r0 r1=>?_)|refine zG ?_|apply zA|(apply zI;intro h)|exact zT));(all_goals conv=>whnf)
 all_goals first
  |exact hK _ _ (by omega) (by omega) (by omega) (by omega)
  |trace_state
theorem cqTimes(s:ByteArray)(hs:s.size<=1000){K:KT}(hK:∀a b:Int,-1<=a->a<=1440-> -1<=b->b<=1440->K (.tup [.v (.int .i64 a),.v (.int .i64 b)]) []):ACall Tryz.prog 177 [.v (.string s)] [] K:=by
 refine ofq9Times rfl rfl ?_
 (repeat' ((conv=>whnf);first|(with_reducible refine cqParts s _ hs fun l hl hn=>?_)|(refine In.intro 0 rfl (by omega) ?_)|(refine In.intro 1 rfl (by omega) ?_)|(with_reducible first|refine ix_map_any (by simp only[List.length_map]at*;omega) fun c hc=>?_|refine cqClock _ fun r r0 r1=>?_)|refine zG ?_|apply zA|(apply zI;intro h)|exact zT));(all_goals conv=>whnf)
 all_goals first
  |exact hK _ _ (by omega) (by omega) (by omega) (by omega)
  |trace_state
theorem cqWin(l:List Rg)(hl:l.length<100000){K:KT}(hK:∀s,(s=true↔Canon l/\∀r,r∈l->r.hi<=10079)->K (.sb s) []):ACall Tryz.prog 166 [encRs l] [] K:=by
 refine ofq9Win rfl rfl ?_
 (repeat' ((conv=>whnf);first|(with_reducible refine c33 l 10079 hl fun s hs=>?_)|refine zG ?_|apply zA|(apply zI;intro h)|exact zT));(all_goals conv=>whnf)
 exact hK _ hs
theorem canon_le{l:List Rg}(h:Canon l){r:Rg}(hr:r∈l):r.lo<=r.hi:=h.1 r hr
theorem cqForm(l:List Rg)(hl:l.length<=4000){K:KT}(hK:∀ss:List ByteArray,K (.lst (ss.map encSt)) []):ACall Tryz.prog 167 [encRs l] [] K:=by
 refine ACall.weak (ofq9Form rfl rfl ?_)
 (repeat' ((conv=>whnf);first|(with_reducible refine cqWin l (by omega) fun s hs=>?_)|(refine sl_full (by rfl) ?_)|refine zG ?_|apply zA|(apply zI;intro h)|exact zT));(all_goals conv=>whnf)
 all_goals first
  |exact⟨_,Weak.nils,hK []⟩
  |exact⟨_,Weak.refl,hK [⟨#[110,101,118,101,114]⟩]⟩
  |skip
 refine Lp.intro (Nat×List ByteArray) (fun g=>⟨1,[(0,.arr 1 (g.2.map encSt))],[(0,encRs l),(3,.os 0 1 0 g.2.length),(4,.v (.int .i64 g.1))]⟩)
  (fun g=>g.1<=7/\g.2.length<=40000*g.1) (fun g=>7-g.1) (0,[]) ⟨Nat.zero_le _,Nat.zero_le _⟩ ?_ ?_
 ·(exact leA)
 rintro⟨d,ss⟩ ⟨hd,hss⟩
 simp only at hd hss⊢
 rcases Nat.lt_or_ge d 7 with hd7|hd7
 ·have hint:∀{K:KT},(∀out,Canon out->(∀v,has out v=(has l v&&has [mkR (1440*d) (1440*d+1439)] v))->out.length<=2*(l.length+1)+1->K (encRs out) [])->ACall Tryz.prog 201 [encRs l,.lst [encR (mkR (1440*d) (1440*d+1439))]] [] K:=fun h=>c26 l [mkR (1440*d) (1440*d+1439)] (by omega) (by simp) h
  have m1:(mkR (1440*(d:Int)) (1440*d+1439)).lo=1440*d:=mkR_lo (by omega) (by omega) (by omega) (by omega)
  have m2:(mkR (1440*(d:Int)) (1440*d+1439)).hi=1440*d+1439:=mkR_hi (by omega) (by omega) (by omega) (by omega)
  have hint2:∀{K:KT},(∀out,Canon out->(∀v,has out v=(has l v&&has [mkR (1440*d) (1440*d+1439)] v))->out.length<=2*(l.length+1)+1->K (encRs out) [])->ACall Tryz.prog 201 [encRs l,.lst [.agg [.v (.int .u32 (1440*d)),.v (.int .u32 (1440*d+1439))]]] [] K:=fun h=>by
   have:=hint h
   simp only[encR,m1,m2]at this
   exact this
  (repeat' ((conv=>whnf);first|(with_reducible first|refine wr_i64 rfl (by omega) (by omega) ?_|refine wr_u32 rfl (by omega) (by omega) ?_)|(refine sl_full (by rfl) ?_)|(with_reducible refine hint2 fun out ho hh hn=>?_)|refine zG ?_|apply zA|(apply zI;intro h)|exact zT));(all_goals conv=>whnf)
  refine Lp.intro (Nat×List ByteArray) (fun g=>⟨1,[(0,.arr 1 (g.2.map encSt))],[(0,encRs l),(3,.os 0 1 0 g.2.length),(4,.v (.int .i64 d)),(5,.v (.int .u32 (1440*d))),(6,encRs out),(7,.v (.int .i64 g.1))]⟩)
   (fun g=>g.1<=out.length/\g.2.length<=ss.length+3*g.1) (fun g=>out.length-g.1) (0,ss) ⟨Nat.zero_le _,by simp only;omega⟩ ?_ ?_
  ·(exact leA)
  rintro⟨i,st⟩ ⟨hi,hst⟩
  simp only at hi hst⊢
  rcases Nat.lt_or_ge i out.length with hil|hil
  ·obtain⟨r,hr⟩:=gex hil
   have hrm:=List.mem_of_getElem? hr
   have hle:=canon_le ho hrm
   have hb:∀v,r.lo<=v->v<=r.hi->1440*(d:Int)<=v/\v<=1440*d+1439:=fun v h1 h2=>by
    have h3:has out v=true:=has_iff.2 ⟨r,hrm,h1,h2⟩
    rw[hh]at h3
    simp only[Bool.and_eq_true]at h3
    obtain⟨q,hq,q1,q2⟩:=has_iff.1 h3.2
    simp only[List.mem_singleton]at hq
    subst hq
    rw[m1]at q1;rw[m2]at q2
    exact⟨q1,q2⟩
   have hb1:=hb r.lo (Int.le_refl _) hle
   have hb2:=hb r.hi hle (Int.le_refl _)
   have hT:∀(v:Int),0<=v->v<=2000->∀{K:KT},(∀s:ByteArray,s.size<=10000->K (.v (.string s)) [])->ACall Tryz.prog 203 [.v (.int .i64 v)] [] K:=fun v v0 v1 K h=>by
    obtain⟨n,rfl⟩:=Int.eq_ofNat_of_zero_le v0
    exact cqText n (by omega) fun s hs=>h s (by omega)
   (repeat' ((conv=>whnf);first|refine zG ?_|apply zA|(apply zI;intro h)|exact zT));(all_goals conv=>whnf)
   refine Jn.intro (List ByteArray) (fun g=>⟨1,[(0,.arr 1 (g.map encSt))],[(0,encRs l),(3,.os 0 1 0 g.length),(4,.v (.int .i64 d)),(5,.v (.int .u32 (1440*d))),(6,encRs out),(7,.v (.int .i64 i))]⟩) (fun g=>g.length<=st.length+1) ?_ ?_
   ·(repeat' ((conv=>whnf);first|refine zG ?_|apply zA|(apply zI;intro h)|exact zT));(all_goals conv=>whnf)
    ·refine⟨st++[⟨#[44]⟩],by simp,?_⟩
     simp only[List.map_append,List.length_append,List.map_cons,List.map_nil,List.length_cons,List.length_nil]
     (exact leA)
    ·refine⟨st,by omega,?_⟩
     (exact leA)
   intro su hsu
   have z1:(⟨#[45]⟩:ByteArray).size=1:=rfl
   have hd0:d<dayL.length:=hd7
   (repeat' ((conv=>whnf);first|(with_reducible first|refine cqDays ?_|refine in_map hd0 ?_|refine ix_map_any hd0 fun c hc=>?_|refine in_map hil ?_|refine ix_map hr ?_|refine wr_u32 rfl (by omega) (by omega) ?_|refine wr_i64 rfl (by omega) (by omega) ?_|refine hT _ (by omega) (by omega) fun s hs=>?_|refine Ob.intro (by(try simp only[ByteArray.size_append]);omega) ?_)|refine zG ?_|apply zA|(apply zI;intro h)|exact zT));(all_goals conv=>whnf)
   rename_i q1 q2 q3 sA hsA
   refine⟨(i+1,su++[c,sA++⟨#[45]⟩++s]),⟨by simp only;omega,by simp only[List.length_append,List.length_cons,List.length_nil];omega⟩,by simp only;omega,?_⟩
   simp only[List.map_append,List.length_append,List.map_cons,List.map_nil,List.length_cons,List.length_nil,Int.natCast_add,Int.natCast_one]
   (exact leA)
  ·(repeat' ((conv=>whnf);first|refine zG ?_|apply zA|(apply zI;intro h)|exact zT));(all_goals conv=>whnf)
   refine⟨(d+1,st),⟨by simp only;omega,by simp only;omega⟩,by simp only;omega,?_⟩
   rw[show(((d+1,st):Nat×List ByteArray).1:Int)=(d:Int)+1 from by simp only;omega]
   (exact leA)
 ·(repeat' ((conv=>whnf);first|(with_reducible refine sl_full (List.length_map ..) ?_)|refine zG ?_|apply zA|(apply zI;intro h)|exact zT));(all_goals conv=>whnf)
  exact⟨_,Weak.refl,hK ss⟩
theorem cqUnN(a:List Rg)(ha:a.length<10000){K:KT}(hK:∀rs:List Rg,rs.length<=2*a.length+1->K (encRs rs) []):ACall Tryz.prog 169 [encRs a,.lst []] [] K:=
 c14 a [] ha (by simp) fun out h1 h2 h3=>hK out (by simpa using h3)
theorem cqParse(ws:List ByteArray)(hw:∀s,s∈ws->s.size<=1000)(hl:ws.length<=100){K:KT}(hK:∀(rs:List Rg) (e:Int),rs.length<=3000->K (.tup [encRs rs,.v (.int .i64 e)]) []):ACall Tryz.prog 128 [.lst (ws.map encSt)] [] K:=by
 have hm:(ws.length:Int).tmod 3=((ws.length%3:Nat):Int):=by rw[Int.tmod_eq_emod_of_nonneg (by omega)];omega
 refine ACall.weak (ofq9Parse rfl rfl ?_)
 (repeat' ((conv=>whnf);first|(refine In.intro 0 rfl (by omega) ?_)|(with_reducible first|refine ix_map_any (by simp only[List.length_map]at*;omega) fun c hc=>?_|refine Ob.intro (by decide) ?_)|refine zG ?_|apply zA|(apply zI;intro h)|exact zT));(all_goals conv=>whnf)
 all_goals first
  |exact⟨_,Weak.tup2 Weak.nils Weak.refl,hK [] _ (by simp)⟩
  |skip
 all_goals
  rename_i hc2
  have hmod:ws.length%3=2:=by simp only[List.length_map]at*;omega
  refine Lp.intro (Nat×List Rg) (fun g=>⟨1,[(0,.arr 2 (g.2.map encR))],[(0,.lst (ws.map encSt)),(4,.os 0 2 0 g.2.length),(5,.v (.int .i64 g.1))]⟩)
   (fun g=>g.1%3=0/\g.1<=ws.length+1/\g.2.length<=7*g.1) (fun g=>ws.length+3-g.1) (0,[]) ⟨rfl,Nat.zero_le _,Nat.zero_le _⟩ ?_ ?_
  ·(exact leA)
  rintro⟨i,out⟩ ⟨h1,h2,h3⟩
  simp only at h1 h2 h3⊢
  rcases Nat.lt_or_ge i ws.length with hil|hil
  ·have hi1:i+1<ws.length:=by omega
   obtain⟨s0,hs0⟩:=gex hil
   obtain⟨s1,hs1⟩:∃s,ws[i+1]? =some s:=⟨_,List.getElem?_eq_getElem hi1⟩
   (repeat' ((conv=>whnf);first|(with_reducible first|refine in_map hil ?_|refine ix_map hs0 ?_|refine In.intro (i+1) (by omega) (by rw[List.length_map];exact hi1) ?_|refine ix_map hs1 ?_|refine cqSpan s0 (hw _ (List.mem_of_getElem? hs0)) fun a b a0 a1 b0 b1=>?_|refine cqTimes s1 (hw _ (List.mem_of_getElem? hs1)) fun f g f0 f1 g0 g1=>?_|refine In.intro (i+2) (by omega) (by rw[List.length_map]at*;omega) ?_|refine ix_map_any (by simp only[List.length_map]at*;omega) fun c hc=>?_)|refine zG ?_|apply zA|(apply zI;intro h)|exact zT));(all_goals conv=>whnf)
   all_goals first
    |exact⟨_,Weak.tup2 Weak.nils Weak.refl,hK [] _ (by simp)⟩
    |skip
   all_goals
    refine Lp.intro (Int×List Rg) (fun q=>⟨1,[(0,.arr 2 (q.2.map encR))],[(0,.lst (ws.map encSt)),(4,.os 0 2 0 q.2.length),(5,.v (.int .i64 i)),(7,.v (.int .i64 b)),(8,.v (.int .i64 f)),(9,.v (.int .i64 g)),(10,.v (.int .i64 q.1))]⟩)
     (fun q=>0<=q.1/\q.1<=7/\(q.2.length:Int)<=7*i+q.1) (fun q=>(7-q.1).toNat) (a,out) ⟨by simp only;omega,by simp only;omega,by simp only;omega⟩ ?_ ?_
    ·(exact leA)
    rintro⟨d,ou⟩ ⟨k1,k2,k3⟩
    simp only at k1 k2 k3⊢
    rcases Int.lt_or_le b d with hbd|hbd
    ·(repeat' ((conv=>whnf);first|refine zG ?_|apply zA|(apply zI;intro h)|exact zT));(all_goals conv=>whnf)
     refine⟨(i+3,ou),⟨by simp only;omega,by simp only;omega,by simp only;omega⟩,by simp only;omega,?_⟩
     rw[show(((i+3,ou):Nat×List Rg).1:Int)=(i:Int)+3 from by simp only;omega]
     (exact leA)
    ·(repeat' ((conv=>whnf);first|(with_reducible first|refine wr_i64 rfl (by omega) (by omega) ?_|refine wr_u32_any fun r r0 r1=>?_)|refine zG ?_|apply zA|(apply zI;intro h)|exact zT));(all_goals conv=>whnf)
     rename_i y y0 y1
     refine⟨(d+1,ou++[⟨y,r,y0,y1,r0,r1⟩]),⟨by simp only;omega,by simp only;omega,by simp only[List.length_append,List.length_cons,List.length_nil];omega⟩,by simp only;omega,?_⟩
     simp only[List.map_append,List.length_append,List.map_cons,List.map_nil,List.length_cons,List.length_nil]
     (exact leA)
  ·(repeat' ((conv=>whnf);first|(with_reducible first|refine Ob.intro (by decide) ?_|refine wr_any fun r=>?_|refine sl_full (List.length_map ..) ?_|refine cqUnN out (by omega) fun rs h3=>?_)|refine zG ?_|apply zA|(apply zI;intro h)|exact zT));(all_goals conv=>whnf)
   all_goals first
    |exact⟨_,Weak.tup2 Weak.nils Weak.refl,hK [] _ (by simp)⟩
    |exact⟨_,Weak.refl,hK _ _ (by omega)⟩
    |trace_state
def winL:List ByteArray:=[⟨#[109,111,110]⟩,⟨#[116,117,101]⟩,⟨#[115,117,110]⟩,⟨#[109,111,110,45,102,114,105]⟩,⟨#[115,97,116,45,115,117,110]⟩,⟨#[119,101,100,45,119,101,100]⟩]
def houL:List ByteArray:=[⟨#[48,48,58,48,48,45,50,52,58,48,48]⟩,⟨#[48,56,58,48,48,45,49,55,58,48,48]⟩,⟨#[48,56,58,48,48,45,48,56,58,48,49]⟩,⟨#[50,51,58,53,57,45,50,52,58,48,48]⟩,⟨#[49,55,58,48,48,45,49,56,58,51,48]⟩]
theorem cnWin(raw:List Int)(pos:Nat)(hp:pos<=raw.length)(hr:raw.length<=9223372036854775807){K:KT}
  (hK:∀(rs:List Rg) (pos':Nat),rs.length<=3000->pos'<=raw.length->K (encRs rs) [tapeO raw pos']):ACall Tryz.prog 81 [.op 0 0] [tapeO raw pos] K:=by
 have b1:∀s,s∈winL->s.size<=1000:=by decide+kernel
 have b2:∀s,s∈houL->s.size<=1000:=by decide+kernel
 refine ofnWin rfl rfl ?_
 (repeat' ((conv=>whnf);first|(with_reducible first|refine nNext raw _ _ (by omega) (by assumption) hr fun m1 p1 hm1 hp1=>?_|refine in_nat (by omega) ?_|refine ix_strs winL 6 rfl rfl (by omega) fun c hc=>?_|refine ix_strs houL 5 rfl rfl (by omega) fun e he=>?_)|refine zG ?_|apply zA|(apply zI;intro h)|exact zT));(all_goals conv=>whnf)
 all_goals
  refine Lp.intro (Nat×Nat×List ByteArray) (fun g=>⟨4,[(0,tapeO raw g.1),(1,.arr 1 (winL.map encSt)),(2,.arr 1 (houL.map encSt)),(3,.arr 1 (g.2.2.map encSt))],[(0,.op 0 0),(3,.os 1 1 0 6),(4,.os 2 1 0 5),(5,.os 3 1 0 g.2.2.length),(6,.v (.int .i64 g.2.1))]⟩)
   (fun g=>g.1<=raw.length/\3*g.2.1+g.2.2.length<=100/\∀s,s∈g.2.2->s.size<=1000) (fun g=>g.2.1) (p1,m1,[c,e]) ⟨hp1,by simp only[List.length_cons,List.length_nil];omega,fun s hs=>by
    simp only[List.mem_cons,List.not_mem_nil,or_false]at hs
    rcases hs with rfl|rfl
    ·exact b1 _ hc
    ·exact b2 _ he⟩ ?_ ?_
  ·(exact leA)
  rintro⟨p2,i,ws⟩ ⟨h1,h2,h3⟩
  simp only at h1 h2 h3⊢
  rcases Nat.lt_or_ge 0 i with hi0|hi0
  ·obtain⟨i',rfl⟩:∃i',i=i'+1:=⟨i-1,by omega⟩
   have hi1:((i'+1:Nat):Int)-1=(i':Int):=by omega
   (repeat' ((conv=>whnf);first|(with_reducible first|refine wr_i64 hi1 (by omega) (by omega) ?_|refine nNext raw _ _ (by omega) (by assumption) hr fun m1 p1 hm1 hp1=>?_|refine in_nat (by omega) ?_|refine ix_strs winL 6 rfl rfl (by omega) fun x hx=>?_|refine ix_strs houL 5 rfl rfl (by omega) fun y hy=>?_)|refine zG ?_|apply zA|(apply zI;intro h)|exact zT));(all_goals conv=>whnf)
   all_goals first
    |(refine⟨(p1,i',ws++[⟨#[44]⟩,x,y]),⟨hp1,by simp only[List.length_append,List.length_cons,List.length_nil];omega,fun s hs=>?_⟩,by simp only;omega,?_⟩
      ·rcases List.mem_append.1 hs with hs|hs
       ·exact h3 s hs
       ·simp only[List.mem_cons,List.not_mem_nil,or_false]at hs
        rcases hs with rfl|rfl|rfl
        ·decide
        ·exact b1 _ hx
        ·exact b2 _ hy
      ·simp only[List.map_append,List.length_append,List.map_cons,List.map_nil,List.length_cons,List.length_nil]
       (exact leA))
    |trace_state
  ·obtain rfl:i=0:=by omega
   (repeat' ((conv=>whnf);first|(with_reducible first|refine sl_full (List.length_map ..) ?_|refine cqParse ws h3 (by omega) fun rs e hrs=>?_)|refine zG ?_|apply zA|(apply zI;intro h)|exact zT));(all_goals conv=>whnf)
   exact hK _ _ hrs h1
theorem cjOpt(s:ByteArray){K:KT}(hK:∀b,(b=true->s.toList=[]\/nameOk s)->K (.sb b) []):ACall Tryz.prog 168 [.v (.string s)] [] K:=by
 refine ACall.bool (ofj16Opt rfl rfl ?_)
 (repeat' ((conv=>whnf);first|(with_reducible refine crName _ ?_)|refine zG ?_|apply zA|(apply zI;intro h)|exact zT));(all_goals conv=>whnf)
 all_goals first
  |exact .inl ⟨true,rfl,hK true fun _=>.inl (by simpa using h)⟩
  |exact .inr ⟨_,rfl,hK _ fun h1=>.inr (nameB_iff.1 h1)⟩
  |trace_state
theorem cjPort(n:Int){K:KT}(hK:∀b,K (.sb b) []):ACall Tryz.prog 120 [.v (.int .i64 n)] [] K:=by
 refine ACall.bool (ofj16Port rfl rfl ?_)
 (repeat' ((conv=>whnf);first|refine zG ?_|apply zA|(apply zI;intro h)|exact zT));(all_goals conv=>whnf)
 all_goals first
  |exact .inl ⟨_,rfl,hK _⟩
  |exact .inr ⟨_,rfl,hK _⟩
theorem cjPorts(lo hi n:Int){K:KT}(hK:∀b,K (.sb b) []):ACall Tryz.prog 121 [.agg [.v (.int .u32 lo),.v (.int .u32 hi)],.v (.int .u32 n)] [] K:=by
 refine ACall.bool (ofj16Ports rfl rfl ?_)
 (repeat' ((conv=>whnf);first|refine zG ?_|apply zA|(apply zI;intro h)|exact zT));(all_goals conv=>whnf)
 all_goals first
  |exact .inl ⟨_,rfl,hK _⟩
  |exact .inr ⟨_,rfl,hK _⟩
theorem cjFind(l:List Df)(s:ByteArray)(hl:l.length<=1000){K:KT}(hK:∀r:Int,-1<=r->r<l.length->K (.v (.int .i64 r)) []):ACall Tryz.prog 164 [.lst (l.map encDf),.v (.string s)] [] K:=by
 refine ofj16Find rfl rfl ?_
 (repeat' ((conv=>whnf);first|refine zG ?_|apply zA|(apply zI;intro h)|exact zT));(all_goals conv=>whnf)
 refine Lp.intro Nat (fun i=>⟨0,[],[(0,.lst (l.map encDf)),(1,.v (.string s)),(5,.v (.int .i64 i))]⟩) (fun i=>i<=l.length) (fun i=>l.length-i) 0 (Nat.zero_le _) ?_ ?_
 ·(exact leA)
 intro i hi
 rcases Nat.lt_or_ge i l.length with hil|hil
 ·obtain⟨x,hx⟩:=gex hil
  (repeat' ((conv=>whnf);first|(with_reducible first|refine in_map hil ?_|refine ix_map hx ?_)|refine zG ?_|apply zA|(apply zI;intro h)|exact zT));(all_goals conv=>whnf)
  all_goals first
   |exact hK _ (by omega) (by omega)
   |(refine⟨i+1,hil,by omega,?_⟩
     rw[Int.natCast_add,Int.natCast_one]
     (exact leA)
     done)
 ·(repeat' ((conv=>whnf);first|refine zG ?_|apply zA|(apply zI;intro h)|exact zT));(all_goals conv=>whnf)
  exact hK _ (by omega) (by omega)
theorem cjFindW(l:List Wn)(s:ByteArray)(hl:l.length<=1000){K:KT}(hK:∀r:Int,-1<=r->r<l.length->K (.v (.int .i64 r)) []):ACall Tryz.prog 117 [.lst (l.map encWn),.v (.string s)] [] K:=by
 refine ofj16FindW rfl rfl ?_
 (repeat' ((conv=>whnf);first|refine zG ?_|apply zA|(apply zI;intro h)|exact zT));(all_goals conv=>whnf)
 refine Lp.intro Nat (fun i=>⟨0,[],[(0,.lst (l.map encWn)),(1,.v (.string s)),(5,.v (.int .i64 i))]⟩) (fun i=>i<=l.length) (fun i=>l.length-i) 0 (Nat.zero_le _) ?_ ?_
 ·(exact leA)
 intro i hi
 rcases Nat.lt_or_ge i l.length with hil|hil
 ·obtain⟨x,hx⟩:=gex hil
  (repeat' ((conv=>whnf);first|(with_reducible first|refine in_map hil ?_|refine ix_map hx ?_)|refine zG ?_|apply zA|(apply zI;intro h)|exact zT));(all_goals conv=>whnf)
  all_goals first
   |exact hK _ (by omega) (by omega)
   |(refine⟨i+1,hil,by omega,?_⟩
     rw[Int.natCast_add,Int.natCast_one]
     (exact leA)
     done)
 ·(repeat' ((conv=>whnf);first|refine zG ?_|apply zA|(apply zI;intro h)|exact zT));(all_goals conv=>whnf)
  exact hK _ (by omega) (by omega)
theorem eqv_It{k k' pa pb qa qb pr pr' lo hi lo' hi':Int}{n n':ByteArray}{K:Bool->Prop}(hk:∀b,K b):EqV Tryz.prog 144 [.v (.int .i64 k),.v (.string n),.v (.int .u32 pa),.v (.int .i64 pb),.v (.int .i64 pr),.v (.int .u32 lo),.v (.int .u32 hi)]
  [.v (.int .i64 k'),.v (.string n'),.v (.int .u32 qa),.v (.int .i64 qb),.v (.int .i64 pr'),.v (.int .u32 lo'),.v (.int .u32 hi')] K:=by
 refine eqv_of (b:=(k==k'&&(n.toList==n'.toList&&((pa==qa&&(pb==qb&&true))&&(pr==pr'&&((lo==lo'&&(hi==hi'&&true))&&true)))))) rfl rfl (by kernel_rfl) (by kernel_rfl) (hk _)
theorem eqv_Rg{lo hi lo' hi':Int}{K:Bool->Prop}(hk:∀b,K b):EqV Tryz.prog 66 [.v (.int .u32 lo),.v (.int .u32 hi)] [.v (.int .u32 lo'),.v (.int .u32 hi')] K:=by
 refine eqv_of (b:=(lo==lo'&&(hi==hi'&&true))) rfl rfl (by kernel_rfl) (by kernel_rfl) (hk _)
theorem cjItem(x:It)(g:Bool){K:KT}(hK:∀b,K (.sb b) []):ACall Tryz.prog 165 [encIt x,.sb g] [] K:=by
 refine ACall.bool (ofj16Item rfl rfl ?_)
 (repeat' ((conv=>whnf);first|(with_reducible first|refine crName _ ?_|refine crVal x.pf ?_|refine cjPorts _ _ _ fun b=>?_)|(refine eqv_It fun b=>?_)|(refine eqv_Rg fun b=>?_)|refine zG ?_|apply zA|(apply zI;intro h)|exact zT));(all_goals conv=>whnf)
 all_goals first
  |exact .inl ⟨_,rfl,hK _⟩
  |exact .inr ⟨_,rfl,hK _⟩
  |trace_state
theorem cjDefs(l:List Df)(g:Bool)(hl:l.length<=1000)(hi:∀x,x∈l->x.items.length<=1000){K:KT}(hK:∀b,K (.sb b) []):ACall Tryz.prog 116 [.lst (l.map encDf),.sb g] [] K:=by
 refine ACall.bool (ofj16Defs rfl rfl ?_)
 (repeat' ((conv=>whnf);first|refine zG ?_|apply zA|(apply zI;intro h)|exact zT));(all_goals conv=>whnf)
 all_goals first
  |exact .inl ⟨_,rfl,hK _⟩
  |exact .inr ⟨_,rfl,hK _⟩
  |skip
 refine Lp.intro Nat (fun i=>⟨0,[],[(0,.lst (l.map encDf)),(1,.sb g),(5,.v (.int .i64 i))]⟩) (fun i=>i<=l.length) (fun i=>l.length-i) 0 (Nat.zero_le _) ?_ ?_
 ·(exact leA)
 intro i hil0
 rcases Nat.lt_or_ge i l.length with hil|hil
 ·obtain⟨x,hx⟩:=gex hil
  have hxi:=hi x (List.mem_of_getElem? hx)
  (repeat' ((conv=>whnf);first|(with_reducible first|refine in_map hil ?_|refine ix_map hx ?_|refine crName _ ?_|refine cjFind l _ hl fun r r0 r1=>?_)|refine zG ?_|apply zA|(apply zI;intro h)|exact zT));(all_goals conv=>whnf)
  all_goals first
   |exact .inl ⟨_,rfl,hK _⟩
   |exact .inr ⟨_,rfl,hK _⟩
   |skip
  refine Lp.intro Nat (fun k=>⟨0,[],[(0,.lst (l.map encDf)),(1,.sb g),(5,.v (.int .i64 i)),(6,.v (.int .i64 k))]⟩) (fun k=>k<=x.items.length) (fun k=>x.items.length-k) 0 (Nat.zero_le _) ?_ ?_
  ·(exact leA)
  intro k hk0
  rcases Nat.lt_or_ge k x.items.length with hkl|hkl
  ·obtain⟨y,hy⟩:=gex hkl
   (repeat' ((conv=>whnf);first|(with_reducible first|refine in_map hil ?_|refine ix_map hx ?_|refine in_map hkl ?_|refine ix_map hy ?_|refine cjItem y _ fun b=>?_)|refine zG ?_|apply zA|(apply zI;intro h)|exact zT));(all_goals conv=>whnf)
   all_goals first
    |exact .inl ⟨_,rfl,hK _⟩
    |exact .inr ⟨_,rfl,hK _⟩
    |(refine⟨k+1,hkl,by omega,?_⟩
      rw[Int.natCast_add,Int.natCast_one]
      (exact leA)
      done)
  ·(repeat' ((conv=>whnf);first|(with_reducible first|refine in_map hil ?_|refine ix_map hx ?_)|refine zG ?_|apply zA|(apply zI;intro h)|exact zT));(all_goals conv=>whnf)
   refine⟨i+1,hil,by omega,?_⟩
   rw[Int.natCast_add,Int.natCast_one]
   (exact leA)
 ·(repeat' ((conv=>whnf);first|refine zG ?_|apply zA|(apply zI;intro h)|exact zT));(all_goals conv=>whnf)
  all_goals first
   |exact .inl ⟨_,rfl,hK _⟩
   |exact .inr ⟨_,rfl,hK _⟩
theorem cjWri(l:List Rg)(hl:l.length<=4000){K:KT}(hK:∀b,K (.sb b) []):ACall Tryz.prog 118 [encRs l] [] K:=by
 refine ACall.bool (ofj16Wri rfl rfl ?_)
 (repeat' ((conv=>whnf);first|(with_reducible first|refine cqWin l (by omega) fun s hs=>?_|refine cqForm l hl fun ss=>?_)|refine zG ?_|apply zA|(apply zI;intro h)|exact zT));(all_goals conv=>whnf)
 all_goals first
  |exact .inl ⟨_,rfl,hK _⟩
  |exact .inr ⟨_,rfl,hK _⟩
  |trace_state
theorem cjSm(x:Sm){K:KT}(hK:∀b,(b=true->x.cls.toList=[]\/nameOk x.cls)->K (.sb b) []):ACall Tryz.prog 119 [encSm x] [] K:=by
 have hf:∀b,b=false->K (.sb b) []:=fun b hb=>hK b fun h=>by rw[hb]at h;cases h
 have hopt:∀(s:ByteArray) {K:KT},K (.v (.bool true)) []->K (.v (.bool false)) []->True:=fun _ _ _ _=>trivial
 refine ACall.bool (ofj16Sm rfl rfl ?_)
 (repeat' ((conv=>whnf);first|(with_reducible refine cjOpt _ fun b hb=>?_)|refine zG ?_|apply zA|(apply zI;intro h)|exact zT));(all_goals conv=>whnf)
 all_goals first
  |exact .inl ⟨_,rfl,hf _ rfl⟩
  |exact .inr ⟨_,rfl,hf _ rfl⟩
  |exact .inl ⟨_,rfl,hK _ fun _=>by simp_all⟩
  |exact .inr ⟨_,rfl,hK _ fun _=>by simp_all⟩
  |trace_state
theorem cjDefsV(l:List Df)(g:Bool)(hl:l.length<=1000)(hi:∀x,x∈l->x.items.length<=1000){K:KT}(hK:∀b,K (.sb b) []):ACall Tryz.prog 116 [.lst (l.map encDf),.v (.bool g)] [] K:=
 ACall.args (ys:=[.lst (l.map encDf),.sb g]) ⟨Weak.refl,Weak.bool,trivial⟩ (cjDefs l g hl hi hK)
theorem cjVal(i:Nt)(hs:Sml i){K:KT}(hK:∀b,(b=true->∀s,s∈i.sts->s.cls.toList=[]\/nameOk s.cls)->K (.sb b) []):ACall Tryz.prog 73 [encNt i] [] K:=by
 have hf:∀b,b=false->K (.sb b) []:=fun b hb=>hK b fun h=>by rw[hb]at h;cases h
 have hw:=hs.w;have ht:=hs.t;have hp:=hs.p;have hh:=hs.h
 refine ACall.bool (ofj16Val rfl rfl ?_)
 (repeat' ((conv=>whnf);first|(with_reducible first|refine cjDefsV _ _ hs.g hs.gi fun b=>?_|refine cjDefsV _ _ hs.s hs.si fun b=>?_)|refine zG ?_|apply zA|(apply zI;intro h)|exact zT));(all_goals conv=>whnf)
 all_goals first
  |exact .inl ⟨_,rfl,hf _ rfl⟩
  |exact .inr ⟨_,rfl,hf _ rfl⟩
  |skip
 refine Lp.intro Nat (fun n=>⟨1,[(0,boxNt i)],[(1,.op 0 0),(3,.v (.int .i64 n))]⟩) (fun n=>n<=i.wins.length) (fun n=>i.wins.length-n) 0 (Nat.zero_le _) ?_ ?_
 ·(exact leA)
 intro n hn
 rcases Nat.lt_or_ge n i.wins.length with hnl|hnl
 ·obtain⟨x,hx⟩:=gex hnl
  have hxa:=hs.wi x (List.mem_of_getElem? hx)
  (repeat' ((conv=>whnf);first|(with_reducible first|refine in_map hnl ?_|refine ix_map hx ?_|refine crName _ ?_|refine cjFindW _ _ hs.w fun r r0 r1=>?_|refine cjWri _ hxa fun b=>?_)|refine zG ?_|apply zA|(apply zI;intro h)|exact zT));(all_goals conv=>whnf)
  all_goals first
   |exact .inl ⟨_,rfl,hf _ rfl⟩
   |exact .inr ⟨_,rfl,hf _ rfl⟩
   |(refine⟨n+1,hnl,by omega,?_⟩
     rw[Int.natCast_add,Int.natCast_one]
     (exact leA)
     done)
 (repeat' ((conv=>whnf);first|refine zG ?_|apply zA|(apply zI;intro h)|exact zT));(all_goals conv=>whnf)
 refine Lp.intro Nat (fun n=>⟨1,[(0,boxNt i)],[(1,.op 0 0),(4,.v (.int .i64 n))]⟩) (fun n=>n<=i.sts.length/\∀(k:Nat) s,k<n->i.sts[k]? =some s->s.cls.toList=[]\/nameOk s.cls) (fun n=>i.sts.length-n) 0 ⟨Nat.zero_le _,fun k s h=>absurd h (Nat.not_lt_zero _)⟩ ?_ ?_
 ·(exact leA)
 clear hn hnl n
 intro n ⟨hn,hin⟩
 rcases Nat.lt_or_ge n i.sts.length with hnl|hnl
 ·obtain⟨x,hx⟩:=gex hnl
  (repeat' ((conv=>whnf);first|(with_reducible first|refine in_map hnl ?_|refine ix_map hx ?_|refine cjSm x fun b hb=>?_)|refine zG ?_|apply zA|(apply zI;intro h)|exact zT));(all_goals conv=>whnf)
  all_goals first
   |exact .inl ⟨_,rfl,hf _ rfl⟩
   |exact .inr ⟨_,rfl,hf _ rfl⟩
   |(refine⟨n+1,⟨hnl,all_succ hx (hb (by simpa using h)) hin⟩,by omega,?_⟩
     rw[Int.natCast_add,Int.natCast_one]
     (exact leA)
     done)
 have hall:=before_all hnl hin
 (repeat' ((conv=>whnf);first|refine zG ?_|apply zA|(apply zI;intro h)|exact zT));(all_goals conv=>whnf)
 refine Lp.intro Nat (fun n=>⟨1,[(0,boxNt i)],[(1,.op 0 0),(5,.v (.int .i64 n))]⟩) (fun n=>n<=i.pubs.length) (fun n=>i.pubs.length-n) 0 (Nat.zero_le _) ?_ ?_
 ·(exact leA)
 clear hin hn hnl n
 intro n hn
 rcases Nat.lt_or_ge n i.pubs.length with hnl|hnl
 ·obtain⟨x,hx⟩:=gex hnl
  (repeat' ((conv=>whnf);first|(with_reducible first|refine in_map hnl ?_|refine ix_map hx ?_|refine crName _ ?_|refine cjPort _ fun b=>?_)|refine zG ?_|apply zA|(apply zI;intro h)|exact zT));(all_goals conv=>whnf)
  all_goals first
   |exact .inl ⟨_,rfl,hf _ rfl⟩
   |exact .inr ⟨_,rfl,hf _ rfl⟩
   |(refine⟨n+1,hnl,by omega,?_⟩
     rw[Int.natCast_add,Int.natCast_one]
     (exact leA)
     done)
 (repeat' ((conv=>whnf);first|refine zG ?_|apply zA|(apply zI;intro h)|exact zT));(all_goals conv=>whnf)
 refine Lp.intro Nat (fun n=>⟨1,[(0,boxNt i)],[(1,.op 0 0),(7,.v (.int .i64 n))]⟩) (fun n=>n<=i.hids.length) (fun n=>i.hids.length-n) 0 (Nat.zero_le _) ?_ ?_
 ·(exact leA)
 clear hn hnl n
 intro n hn
 rcases Nat.lt_or_ge n i.hids.length with hnl|hnl
 ·obtain⟨x,hx⟩:=gex hnl
  (repeat' ((conv=>whnf);first|(with_reducible first|refine in_map hnl ?_|refine ix_map hx ?_|refine crName _ ?_|refine cjPorts _ _ _ fun b=>?_)|refine zG ?_|apply zA|(apply zI;intro h)|exact zT));(all_goals conv=>whnf)
  all_goals first
   |exact .inl ⟨_,rfl,hf _ rfl⟩
   |exact .inr ⟨_,rfl,hf _ rfl⟩
   |(refine⟨n+1,hnl,by omega,?_⟩
     rw[Int.natCast_add,Int.natCast_one]
     (exact leA)
     done)
 (repeat' ((conv=>whnf);first|refine zG ?_|apply zA|(apply zI;intro h)|exact zT));(all_goals conv=>whnf)
 have hfin:∀s,s∈i.sts->s.cls.toList=[]\/nameOk s.cls:=fun s hs=>by
  obtain⟨k,hk⟩:=List.mem_iff_getElem?.1 hs
  exact hall k s hk
 exact .inl ⟨true,rfl,hK true fun _=>hfin⟩
noncomputable abbrev cI(v:Nat):AV:=.v (.int .i64 (v:Nat))
def hasE(t:Tp)(i:Int):Bool:=decide (0<=i)&&decide (i<t.edges.length)
noncomputable def wholeZ(t:Tp)(a b:Int):Bx:=if compB t=true/\hasE t a=true/\hasE t b=true then whoT t a b else zB
theorem hasE_get{t:Tp}{i:Int}(h:hasE t i=true):∃(n:Nat) (e:Ed),i=n/\t.edges[n]? =some e:=by
 simp only[hasE,Bool.and_eq_true,decide_eq_true_eq]at h
 have hl:i.toNat<t.edges.length:=by omega
 exact⟨i.toNat,_,by omega,List.getElem?_eq_getElem hl⟩
theorem comp_dev{t:Tp}(h:compB t=true):DevIn t/\t.devs.length<=12/\t.edges.length<=12/\1<=t.devs.length:=by
 have ht:=(compB_iff.1 h).1
 refine⟨fun e he=>?_,ht.d1,ht.e1,ht.d0⟩
 obtain⟨i,hi⟩:=List.mem_iff_getElem?.1 he
 have:=(ht.edge i e hi).1
 unfold edgeOk at this
 omega
theorem pairP_len(t:Tp)(p:Pol)(a b:Int):(pairP t p a b).1.length<=4096:=by
 unfold pairP
 split
 ·exact Nat.zero_le _
 ·split
  ·exact Nat.zero_le _
  ·split
   ·exact Nat.zero_le _
   ·split
    ·exact combP_len _ _ _
    ·exact Nat.zero_le _
theorem preI_mem{n a b:Nat}(ha:a<=n)(hb:b<=n)(hab:b=0\/a<n):∀q,q∈preI n a b->q.1<n/\q.2<n:=by
 intro q hq
 rw[preI]at hq
 rcases List.mem_append.1 hq with hq|hq
 ·obtain⟨i,hi,hq⟩:=List.mem_flatMap.1 hq
  obtain⟨j,hj,rfl⟩:=List.mem_map.1 hq
  rw[List.mem_range]at hi hj
  exact⟨by simp only;omega,hj⟩
 ·obtain⟨j,hj,rfl⟩:=List.mem_map.1 hq
  rw[List.mem_range]at hj
  exact⟨by simp only;omega,by simp only;omega⟩
theorem preI_pre{n a b:Nat}(ha:a<n)(hb:b<=n):∃r,idxI n=preI n a b++r:=by
 have h1:∀d,∃r,preI n (a+1+d) 0=preI n (a+1) 0++r:=by
  intro d
  induction d with
  |zero=>exact⟨[],by simp⟩
  |succ d ih=>
   obtain⟨r,hr⟩:=ih
   refine⟨r++(List.range n).map fun j=>(a+1+d,j),?_⟩
   rw[<-List.append_assoc,<-hr]
   simp[preI,<-Nat.add_assoc,List.range_succ]
 have h2:∀d,∃r,preI n a (b+d)=preI n a b++r:=by
  intro d
  induction d with
  |zero=>exact⟨[],by simp⟩
  |succ d ih=>
   obtain⟨r,hr⟩:=ih
   exact⟨r++[(a,b+d)],by rw[<-Nat.add_assoc,preI_succ,hr,List.append_assoc]⟩
 obtain⟨r1,e1⟩:=h1 (n-(a+1))
 obtain⟨r2,e2⟩:=h2 (n-b)
 rw[show a+1+(n-(a+1))=n by omega]at e1
 rw[show b+(n-b)=n by omega,preI_row]at e2
 exact⟨r2++r1,by rw[idxI,e1,e2,List.append_assoc]⟩
theorem pairsOf_in{t:Tp}{p:Pol}{l:List (Nat×Nat)}(h:∀q,q∈l->q.1<t.edges.length/\q.2<t.edges.length):∀x,x∈pairsOf t p l->PlIn t x/\x.eg=false:=by
 intro x hx
 rw[pairsOf,List.mem_filterMap]at hx
 obtain⟨q,hq,hx⟩:=hx
 split at hx
 ·cases hx
 ·have:=h q hq
  cases hx
  exact⟨⟨by simp only;omega,by simp only;omega,by simp only;omega,by simp only;omega,pairP_len ..⟩,rfl⟩
theorem fitsP_iff{t:Tp}{l:List Nat}:fitsP t l=true↔∀(i:Nat) d v,t.devs[i]? =some d->l[i]? =some v->(v:Int)<=d.cap:=by
 unfold fitsP
 rw[List.all_eq_true]
 constructor
 ·intro h i d v hd hv
  have:=h (d,v) (List.mem_of_getElem? (i:=i) (by rw[List.getElem?_zip_eq_some];exact⟨hd,hv⟩))
  simpa using this
 ·rintro h ⟨d,v⟩ hm
  obtain⟨i,hi⟩:=List.mem_iff_getElem?.1 hm
  rw[List.getElem?_zip_eq_some]at hi
  simpa using h i d v hi.1 hi.2
theorem cnt3_le{k:Nat}{a b:List Bx}{st:List Int}(hs:st.Pairwise (· < ·))(hf:∀e,e∈st->FromB (4-k) a b e)(ha:Cn (k+1) a)(hb:Cn (k+1) b){x y:Bx}(hx:x∈a)(hy:y∈b):
  ((st.filter (inR (x.get (4-k)))).filter (inR (y.get (4-k)))).length<=1:=by
 have hsub:=nodup_sub (List.Nodup.sublist List.filter_sublist (filter_nodup hs (inR (x.get (4-k))))) (l:=(st.filter (inR (x.get (4-k)))).filter (inR (y.get (4-k)))) (m:=[max (x.get (4-k)).lo (y.get (4-k)).lo]) fun e he=>by
  obtain⟨h1,h3⟩:=List.mem_filter.1 he
  obtain⟨h1,h2⟩:=List.mem_filter.1 h1
  rw[inR,Bool.and_eq_true,decide_eq_true_eq,decide_eq_true_eq]at h2 h3
  have hx2:=ha.2.1 x hx
  have hy2:=hb.2.1 y hy
  have hor:e=(x.get (4-k)).lo\/e=(y.get (4-k)).lo:=by
   rcases hf e h1 with h|h|h
   ·have:=(x.get (4-k)).l0
    left;omega
   ·rcases cut_in (d:=[]) ha hx (.inr (.inl h)) h2.1 h2.2 with h|⟨z,hz,_⟩
    ·left;exact h
    ·simp at hz
   ·rcases cut_in (d:=[]) hb hy (.inr (.inl h)) h3.1 h3.2 with h|⟨z,hz,_⟩
    ·right;exact h
    ·simp at hz
  have e1:e=max (x.get (4-k)).lo (y.get (4-k)).lo:=by omega
  rw[e1];simp
 simpa using hsub
theorem boundA:∀(k:Nat) (a b:List Bx),k<=5->Cn k a->Cn k b->(cano anB k a b).length<=a.length*b.length
 |0,a,b,_,_,_=>by
  rw[cano]
  split
  ·rename_i h
   simp only[anB,Bool.and_eq_true,Bool.not_eq_true',List.isEmpty_eq_false_iff]at h
   have h1:=List.length_pos_iff.2 h.1
   have h2:=List.length_pos_iff.2 h.2
   exact Nat.mul_pos h1 h2
  ·exact Nat.zero_le _
 |k+1,a,b,hk,ha,hb=>by
  rw[cano_succ,flatG_len]
  refine Nat.le_trans (groups_le _ _ _) ?_
  have hs:=(starts_inv (rngs (4-k) a b) (topF_pos (4-k)).1).sorted
  have hf:=from_starts (4-k) a b (topF (4-k))
  have h1:((starts (rngs (4-k) a b) (topF (4-k))).map fun e=>(restAt anB k a b e).length).sum<=((starts (rngs (4-k) a b) (topF (4-k))).map fun e=>(atF (4-k) e a).length*(atF (4-k) e b).length).sum:=sum_mono fun e _=>
   boundA k (atF (4-k) e a) (atF (4-k) e b) (by omega) (ha.2.2 e) (hb.2.2 e)
  have h4:=sum_at2_le (f:=4-k) (st:=starts (rngs (4-k) a b) (topF (4-k))) (N:=1) (a:=a) (b:=b) fun x hx y hy=>cnt3_le hs hf ha hb hx hy
  rw[Nat.mul_one]at h4
  exact Nat.le_trans h1 h4
def keyP(x:Pl):Int×Int×List Bx:=(x.a,x.b,x.allow)
theorem placeStep_some{t:Tp}{s s':List Pl×List Nat}{x:Pl}(h:placeStep t s x=some s'):∃y,keyP y=keyP x/\s'=(s.1++[y],costP t s.2 y)/\fitsP t (costP t s.2 y)=true:=by
 unfold placeStep at h
 split at h
 ·cases h;exact⟨x,rfl,rfl,by assumption⟩
 ·split at h
  ·cases h;exact⟨{x with eg:=true},rfl,rfl,by assumption⟩
  ·cases h
theorem placeGo_some(t:Tp):∀(l:List Pl) (o:List Pl) (c:List Nat) (s':List Pl×List Nat),placeGo t l (o,c)=some s'->∃m,s'.1=o++m/\m.map keyP=l.map keyP/\s'.2=costsGo t m c/\(m=[]\/fitsP t s'.2=true)
 |[],o,c,s',h=>by cases h;exact⟨[],by simp,rfl,rfl,.inl rfl⟩
 |x::l,o,c,s',h=>by
  rw[placeGo]at h
  split at h
  ·rename_i s1 hs1
   obtain⟨y,hy,rfl,hf⟩:=placeStep_some hs1
   obtain⟨m,h1,h2,h3,h4⟩:=placeGo_some t l _ _ s' h
   refine⟨y::m,by rw[h1,List.append_assoc];rfl,by rw[List.map_cons,List.map_cons,hy,h2],h3,.inr ?_⟩
   rcases h4 with rfl|h4
   ·rw[h3];exact hf
   ·exact h4
  ·cases h
theorem idxI_lex(n:Nat):(idxI n).Pairwise fun p q=>p.1<q.1\/(p.1=q.1/\p.2<q.2):=by
 rw[idxI,preI,List.range_zero,List.map_nil,List.append_nil,List.pairwise_flatMap]
 refine⟨fun a ha=>?_,?_⟩
 ·rw[List.pairwise_map]
  exact List.pairwise_lt_range.imp fun h=>.inr ⟨rfl,h⟩
 ·refine List.pairwise_lt_range.imp fun {a b} h x hx y hy=>?_
  obtain⟨i,_,rfl⟩:=List.mem_map.1 hx
  obtain⟨j,_,rfl⟩:=List.mem_map.1 hy
  exact .inl h
theorem pairsOf_lex{t:Tp}{p:Pol}{l:List (Nat×Nat)}(h:l.Pairwise fun p q=>p.1<q.1\/(p.1=q.1/\p.2<q.2)):(pairsOf t p l).Pairwise fun x y=>x.a<y.a\/(x.a=y.a/\x.b<y.b):=by
 rw[pairsOf,List.pairwise_filterMap]
 refine h.imp fun {u v} huv x hx y hy=>?_
 split at hx
 ·cases hx
 ·split at hy
  ·cases hy
  ·cases hx;cases hy
   simp only
   omega
theorem pairsOf_mem{t:Tp}{p:Pol}{l:List (Nat×Nat)}{x:Pl}(h:x∈pairsOf t p l):∃q,q∈l/\(pairP t p q.1 q.2).1≠[]/\x=⟨q.1,q.2,false,(pairP t p q.1 q.2).1⟩:=by
 rw[pairsOf,List.mem_filterMap]at h
 obtain⟨q,hq,hx⟩:=h
 split at hx
 ·cases hx
 ·rename_i hn
  cases hx
  exact⟨q,hq,hn,rfl⟩
theorem givP_mem{l:List Bx}{q:Nat->Int}(hq:InP q)(h:memK q 5 (givP l).1=true):memK q 5 (vldB l)=true:=by
 unfold givP at h
 split at h
 ·rename_i hs
  rw[vld_all (okL_set hs)];exact h
 ·exact makeP_mem hq h
theorem combP_giv{op:Bool->Bool->Bool}{a b:List Bx}{q:Nat->Int}(hq:InP q)(h:memK q 5 (combP op a b).1=true):op (memK q 5 (givP a).1) (memK q 5 (givP b).1)=true:=by
 unfold combP at h
 split at h
 ·rw[memK_nil]at h;cases h
 ·split at h
  ·rw[memK_nil]at h;cases h
  ·simp only[limP]at h
   split at h
   ·rw[memK_nil]at h;cases h
   ·rwa[cano_mem op hq 5 _ _ (Nat.le_refl _)]at h
theorem comb_sub{a b:List Bx}:subB (combP anB a b).1 b=true:=subB_of (okL_set (setB_combP ..)) fun q hq h=>by
 have:=combP_giv hq h
 simp only[anB,Bool.and_eq_true]at this
 exact givP_mem hq this.2
theorem pairP_set(t:Tp)(p:Pol)(a b:Int):setB (pairP t p a b).1=true:=by
 unfold pairP
 split
 ·exact setB_nil
 ·split
  ·exact setB_nil
  ·split
   ·exact setB_nil
   ·split
    ·exact setB_combP ..
    ·exact setB_nil
theorem pairP_ne{t:Tp}{p:Pol}{a b:Int}(h:(pairP t p a b).1≠[]):a≠b/\subB (pairP t p a b).1 [whoT t a b]=true:=by
 unfold pairP at h⊢
 split at h
 ·exact absurd rfl h
 ·rename_i h0
  rw[if_neg h0]
  split at h
  ·exact absurd rfl h
  ·rename_i h1
   rw[if_neg h1]
   split at h
   ·exact absurd rfl h
   ·rename_i h2
    refine⟨h2,?_⟩
    rw[if_neg h2]
    unfold whoT
    split at h
    ·rename_i ea eb ha hb
     rw[ha,hb]
     exact comb_sub
    ·exact absurd rfl h
theorem pls_of_keys{t:Tp}{p:Pol}(hp:PolOk t p){m:List Pl}(hm:m.map keyP=(pairsOf t p (idxI t.edges.length)).map keyP):PlsOk t m:=by
 have hget:∀(i:Nat) x,m[i]? =some x->∃y,(pairsOf t p (idxI t.edges.length))[i]? =some y/\keyP y=keyP x:=fun i x hx=>by
  have h1:(m.map keyP)[i]? =some (keyP x):=by rw[List.getElem?_map,hx];rfl
  rw[hm,List.getElem?_map]at h1
  obtain⟨y,hy,he⟩:=Option.map_eq_some_iff.1 h1
  exact⟨y,hy,he⟩
 refine⟨hp.comp,fun i x hx=>?_⟩
 obtain⟨y,hy,hk⟩:=hget i x hx
 obtain⟨q,hq,hne,rfl⟩:=pairsOf_mem (List.mem_of_getElem? hy)
 obtain⟨h1,h2⟩:=pairP_ne hne
 have hb:=preI_mem (n:=t.edges.length) (a:=t.edges.length) (b:=0) (Nat.le_refl _) (Nat.zero_le _) (.inl rfl) q hq
 simp only[keyP,Prod.mk.injEq]at hk
 obtain⟨k1,k2,k3⟩:=hk
 refine⟨by omega,by omega,by omega,by omega,by rw[<-k1,<-k2];exact h1,by rw[<-k3];exact hne,by rw[<-k3];exact pairP_set ..,fun k z hik hz=>?_,by rw[<-k1,<-k2,<-k3];exact h2⟩
 obtain⟨w,hw,hkw⟩:=hget k z hz
 simp only[keyP,Prod.mk.injEq]at hkw
 obtain⟨w1,w2,w3⟩:=hkw
 have:=List.pairwise_iff_getElem.1 (pairsOf_lex (t:=t) (p:=p) (idxI_lex t.edges.length)) k i (List.getElem?_eq_some_iff.1 hw).1 (List.getElem?_eq_some_iff.1 hy).1 (by omega)
 rw[(List.getElem?_eq_some_iff.1 hw).2,(List.getElem?_eq_some_iff.1 hy).2]at this
 simp only at this
 omega
theorem cn_one{w:Bx}:∀(k:Nat),k<=5->w.ok->Cn k [w]
 |0,_,_=>Nat.le_refl _
 |k+1,hk,hw=>by
  refine⟨fun x hx y hy=>?_,fun x hx=>?_,fun v=>?_⟩
  ·rw[List.mem_singleton.1 hx,List.mem_singleton.1 hy];exact .inl rfl
  ·rw[List.mem_singleton.1 hx];exact(ok_get hw (4-k) (by omega)).1
  ·rw[atF,List.filter_cons]
   split
   ·exact cn_one k (by omega) hw
   ·exact Cn.nil k
theorem boundO:∀(k:Nat) (a:List Bx),k<=5->Cn k a->(cano orB k a []).length<=a.length
 |0,a,_,_=>by
  rw[cano]
  split
  ·rename_i h
   simp only[orB,Bool.or_eq_true,Bool.not_eq_true',List.isEmpty_eq_false_iff,List.isEmpty_nil,ne_eq,not_true_eq_false,or_false]at h
   exact List.length_pos_iff.2 (by simpa using h)
  ·exact Nat.zero_le _
 |k+1,a,hk,ha=>by
  rw[cano_succ,flatG_len]
  refine Nat.le_trans (groups_le _ _ _) ?_
  have hs:=(starts_inv (rngs (4-k) a []) (topF_pos (4-k)).1).sorted
  have hf:=from_starts (4-k) a [] (topF (4-k))
  have h1:((starts (rngs (4-k) a []) (topF (4-k))).map fun e=>(restAt orB k a [] e).length).sum<=((starts (rngs (4-k) a []) (topF (4-k))).map fun e=>(atF (4-k) e a).length).sum:=sum_mono fun e _=>
   boundO k (atF (4-k) e a) (by omega) (ha.2.2 e)
  have h4:=sum_at_le (f:=4-k) (st:=starts (rngs (4-k) a []) (topF (4-k))) (N:=1) (a:=a) fun x hx=>by
   have:=cnt_le hs hf ha hx
   simpa using this
  rw[Nat.mul_one]at h4
  exact Nat.le_trans h1 h4
theorem giv_one{w:Bx}(hw:w.ok):(givP [w]).2=0/\(givP [w]).1.length<=1/\Cn 5 (givP [w]).1:=by
 refine⟨?_,?_,(givP_pset _).cn⟩
 all_goals
  unfold givP
  split
  ·simp
  ·have e:addO [] w=cano orB 5 [w] []:=cano_ext2 orB orB 5 _ _ _ _ (Nat.le_refl _) fun q hq=>by simp[orB,memK_nil]
   have hl:(addO [] w).length<=1:=by rw[e];exact boundO 5 [w] (Nat.le_refl _) (cn_one 5 (Nat.le_refl _) hw)
   rw[makeP,makeGo,if_pos hw,if_neg (by omega),makeGo]<;>first|rfl|exact hl
theorem comb_one{a:List Bx}{w:Bx}(ha:setB a=true)(hw:w.ok):(combP anB a [w]).2=0/\(combP anB a [w]).1.length<=a.length:=by
 obtain⟨h1,h2,h3⟩:=giv_one hw
 have hp:=setB_pset ha
 have e:givP a=(a,0):=by rw[givP,if_pos ha]
 have hb:=boundA 5 a (givP [w]).1 (Nat.le_refl _) hp.cn h3
 have hm:a.length*(givP [w]).1.length<=a.length*1:=Nat.mul_le_mul_left _ h2
 have hl:=hp.len
 have hlim:¬4096<(cano anB 5 a (givP [w]).1).length:=by omega
 unfold combP
 rw[e]
 simp only[ne_eq,not_true_eq_false,if_false,h1,limP,limE,if_neg hlim,true_and]
 omega
end Go.Proofs.YtokmdghjgegclaaGreatDoor
